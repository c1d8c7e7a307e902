/- Walks: reg, signed, Format of babelref02, printed by wip/eng. No condition but what is named. -/
import Derived.Test.YtgnekniabedomaaProg
import Derived.Test.YtgnekniabedomaaE3
import Derived.Test.YtgnekniabedomaaKb
namespace Go.Proofs.Ytgnekniabedomaa
set_option linter.unusedVariables false
set_option linter.unusedSimpArgs false
open Go.RowKit

def R2.reg (x : Int) : Bool := ((decide (x ≥ 0)) && (decide (x < 8)))
theorem R2_reg (x : Int) (w : World) : Calls Try.prog 34 #[.int .i64 x] w fun e w' => e = .returned (.bool (R2.reg x)) ∧ Bel w w' := by
  refine E.enter (n := 9) (S := fun _ => False) Try.func34 rfl rfl (by kernel_rfl) (E.Hp.start w) ?_
  refine E.C.seq ?_
  refine E.C.region ?_
  refine E.G.op (.bool false) (fun w => by kernel_rfl) (by kernel_rfl) ?_
  refine E.To.code ?_
  refine E.C.seq ?_
  refine E.C.region ?_
  refine E.G.op (.int .i64 x) (fun w => by kernel_rfl) (by kernel_rfl) ?_
  refine E.G.op (.bool (decide (x ≥ 0))) (fun w => by kernel_rfl) (by kernel_rfl) ?_
  refine E.G.op (.bool (decide (x ≥ 0))) (fun w => by kernel_rfl) (by kernel_rfl) ?_
  refine E.G.cut 3 [(2, .bool false), (8, .bool ((decide (x ≥ 0)) && (decide (x < 8))))] (fun _ => True) [] ?_ ?_
  · generalize hc1 : (decide (x ≥ 0)) = b2
    cases b2
    · skip
      refine E.G.skip (by kernel_rfl) (by kernel_rfl) ?_
      refine E.G.skip (by kernel_rfl) (by kernel_rfl) ?_
      refine E.G.op (.bool false) (fun w => by kernel_rfl) (by kernel_rfl) ?_
      exact E.G.end_pst ⟨by kernel_rfl, by kernel_rfl⟩ (List.Sublist.refl _) (fun _ h => h)
    · skip
      refine E.G.op (.int .i64 x) (fun w => by kernel_rfl) (by kernel_rfl) ?_
      refine E.G.op (.bool (decide (x < 8))) (fun w => by kernel_rfl) (by kernel_rfl) ?_
      refine E.G.op (.bool (decide (x < 8))) (fun w => by kernel_rfl) (by kernel_rfl) ?_
      exact E.G.end_pst ⟨by kernel_rfl, by kernel_rfl⟩ (List.Sublist.refl _) (fun _ h => h)
  refine E.G.op (.bool ((decide (x ≥ 0)) && (decide (x < 8)))) (fun w => by kernel_rfl) (by kernel_rfl) ?_
  refine E.To.code ?_
  refine E.C.ret (E.To.body (fn := Try.f34) [.bool ((decide (x ≥ 0)) && (decide (x < 8)))] ?_ ?_)
  · exact ⟨⟨by kernel_rfl, by kernel_rfl⟩, trivial⟩
  · intro w h
    exact ⟨rfl, h.ch.bel (fun _ h => h.elim)⟩

def R2.signed (x : Int) : Bool := ((decide (x < 128)) || (decide (x ≥ 4294967168)))
theorem R2_signed (x : Int) (w : World) : Calls Try.prog 35 #[.int .u32 x] w fun e w' => e = .returned (.bool (R2.signed x)) ∧ Bel w w' := by
  refine E.enter (n := 9) (S := fun _ => False) Try.func35 rfl rfl (by kernel_rfl) (E.Hp.start w) ?_
  refine E.C.seq ?_
  refine E.C.region ?_
  refine E.G.op (.bool false) (fun w => by kernel_rfl) (by kernel_rfl) ?_
  refine E.To.code ?_
  refine E.C.seq ?_
  refine E.C.region ?_
  refine E.G.op (.int .u32 x) (fun w => by kernel_rfl) (by kernel_rfl) ?_
  refine E.G.op (.bool (decide (x < 128))) (fun w => by kernel_rfl) (by kernel_rfl) ?_
  refine E.G.op (.bool (decide (x < 128))) (fun w => by kernel_rfl) (by kernel_rfl) ?_
  refine E.G.cut 3 [(2, .bool false), (8, .bool ((decide (x < 128)) || (decide (x ≥ 4294967168))))] (fun _ => True) [] ?_ ?_
  · generalize hc1 : (decide (x < 128)) = b2
    cases b2
    · skip
      refine E.G.op (.int .u32 x) (fun w => by kernel_rfl) (by kernel_rfl) ?_
      refine E.G.op (.bool (decide (x ≥ 4294967168))) (fun w => by kernel_rfl) (by kernel_rfl) ?_
      refine E.G.op (.bool (decide (x ≥ 4294967168))) (fun w => by kernel_rfl) (by kernel_rfl) ?_
      exact E.G.end_pst ⟨by kernel_rfl, by kernel_rfl⟩ (List.Sublist.refl _) (fun _ h => h)
    · skip
      refine E.G.skip (by kernel_rfl) (by kernel_rfl) ?_
      refine E.G.skip (by kernel_rfl) (by kernel_rfl) ?_
      refine E.G.op (.bool true) (fun w => by kernel_rfl) (by kernel_rfl) ?_
      exact E.G.end_pst ⟨by kernel_rfl, by kernel_rfl⟩ (List.Sublist.refl _) (fun _ h => h)
  refine E.G.op (.bool ((decide (x < 128)) || (decide (x ≥ 4294967168)))) (fun w => by kernel_rfl) (by kernel_rfl) ?_
  refine E.To.code ?_
  refine E.C.ret (E.To.body (fn := Try.f35) [.bool ((decide (x < 128)) || (decide (x ≥ 4294967168)))] ?_ ?_)
  · exact ⟨⟨by kernel_rfl, by kernel_rfl⟩, trivial⟩
  · intro w h
    exact ⟨rfl, h.ch.bel (fun _ h => h.elim)⟩

def R2.Format (x : Int) : Int := (bif ((decide (x ≥ 0)) && (decide (x ≤ 4))) then 1 else (bif ((decide (x ≥ 16)) && (decide (x ≤ 21))) then 2 else (bif ((decide (x ≥ 32)) && (decide (x ≤ 46))) then 3 else (bif ((decide (x ≥ 48)) && (decide (x ≤ 62))) then 4 else (bif ((decide (x ≥ 64)) && (decide (x ≤ 78))) then 5 else (bif ((decide (x ≥ 80)) && (decide (x ≤ 86))) then 6 else (bif ((decide (x ≥ 88)) && (decide (x ≤ 94))) then 7 else (bif ((decide (x ≥ 96)) && (decide (x ≤ 109))) then 8 else (bif ((x == 112) || (x == 113)) then 9 else (bif ((decide (x ≥ 128)) && (decide (x ≤ 130))) then (IntKind.wrap .i64 ((IntKind.wrap .i64 (x - 128)) + 10)) else 0))))))))))
theorem R2_Format (x : Int) (w : World) : Calls Try.prog 30 #[.int .i64 x] w fun e w' => e = .returned (.int .i64 (R2.Format x)) ∧ Bel w w' := by
  refine E.enter (n := 66) (S := fun _ => False) Try.func30 rfl rfl (by kernel_rfl) (E.Hp.start w) ?_
  refine E.C.seq ?_
  refine E.C.region ?_
  refine E.G.op (.int .i64 0) (fun w => by kernel_rfl) (by kernel_rfl) ?_
  refine E.To.code ?_
  refine E.C.seq ?_
  refine E.C.seq ?_
  refine E.C.region ?_
  refine E.G.op (.int .i64 x) (fun w => by kernel_rfl) (by kernel_rfl) ?_
  refine E.G.op (.bool (decide (x ≥ 0))) (fun w => by kernel_rfl) (by kernel_rfl) ?_
  refine E.G.op (.bool (decide (x ≥ 0))) (fun w => by kernel_rfl) (by kernel_rfl) ?_
  refine E.G.cut 3 [(0, .int .i64 x), (2, .int .i64 0), (8, .bool ((decide (x ≥ 0)) && (decide (x ≤ 4))))] (fun _ => True) [] ?_ ?_
  · generalize hc1 : (decide (x ≥ 0)) = b2
    cases b2
    · skip
      refine E.G.skip (by kernel_rfl) (by kernel_rfl) ?_
      refine E.G.skip (by kernel_rfl) (by kernel_rfl) ?_
      refine E.G.op (.bool false) (fun w => by kernel_rfl) (by kernel_rfl) ?_
      exact E.G.end_pst ⟨by kernel_rfl, by kernel_rfl⟩ (List.Sublist.refl _) (fun _ h => h)
    · skip
      refine E.G.op (.int .i64 x) (fun w => by kernel_rfl) (by kernel_rfl) ?_
      refine E.G.op (.bool (decide (x ≤ 4))) (fun w => by kernel_rfl) (by kernel_rfl) ?_
      refine E.G.op (.bool (decide (x ≤ 4))) (fun w => by kernel_rfl) (by kernel_rfl) ?_
      exact E.G.end_pst ⟨by kernel_rfl, by kernel_rfl⟩ (List.Sublist.refl _) (fun _ h => h)
  refine E.To.code ?_
  refine E.C.cond ((decide (x ≥ 0)) && (decide (x ≤ 4))) (by kernel_rfl) (by kernel_rfl) (fun hc3 => ?_) (fun hc3 => ?_)
  · skip
    refine E.C.seq ?_
    refine E.C.region ?_
    refine E.G.op (.int .i64 1) (fun w => by kernel_rfl) (by kernel_rfl) ?_
    refine E.To.code ?_
    refine E.C.ret (E.P.rt (E.To.body (fn := Try.f30) [.int .i64 1] ?_ ?_))
    · exact ⟨⟨by kernel_rfl, by kernel_rfl⟩, trivial⟩
    · intro w h
      exact ⟨by show Ending.returned (.int .i64 1) = _; unfold R2.Format; rw [hc3, cond_true], h.ch.bel (fun _ h => h.elim)⟩
  · skip
    refine E.C.skip (E.To.code ?_)
    refine E.C.seq ?_
    refine E.C.seq ?_
    refine E.C.region ?_
    refine E.G.op (.int .i64 x) (fun w => by kernel_rfl) (by kernel_rfl) ?_
    refine E.G.op (.bool (decide (x ≥ 16))) (fun w => by kernel_rfl) (by kernel_rfl) ?_
    refine E.G.op (.bool (decide (x ≥ 16))) (fun w => by kernel_rfl) (by kernel_rfl) ?_
    refine E.G.cut 3 [(0, .int .i64 x), (2, .int .i64 0), (14, .bool ((decide (x ≥ 16)) && (decide (x ≤ 21))))] (fun _ => True) [] ?_ ?_
    · generalize hc4 : (decide (x ≥ 16)) = b5
      cases b5
      · skip
        refine E.G.skip (by kernel_rfl) (by kernel_rfl) ?_
        refine E.G.skip (by kernel_rfl) (by kernel_rfl) ?_
        refine E.G.op (.bool false) (fun w => by kernel_rfl) (by kernel_rfl) ?_
        exact E.G.end_pst ⟨by kernel_rfl, by kernel_rfl⟩ (List.Sublist.refl _) (fun _ h => h)
      · skip
        refine E.G.op (.int .i64 x) (fun w => by kernel_rfl) (by kernel_rfl) ?_
        refine E.G.op (.bool (decide (x ≤ 21))) (fun w => by kernel_rfl) (by kernel_rfl) ?_
        refine E.G.op (.bool (decide (x ≤ 21))) (fun w => by kernel_rfl) (by kernel_rfl) ?_
        exact E.G.end_pst ⟨by kernel_rfl, by kernel_rfl⟩ (List.Sublist.refl _) (fun _ h => h)
    refine E.To.code ?_
    refine E.C.cond ((decide (x ≥ 16)) && (decide (x ≤ 21))) (by kernel_rfl) (by kernel_rfl) (fun hc6 => ?_) (fun hc6 => ?_)
    · skip
      refine E.C.seq ?_
      refine E.C.region ?_
      refine E.G.op (.int .i64 2) (fun w => by kernel_rfl) (by kernel_rfl) ?_
      refine E.To.code ?_
      refine E.C.ret (E.P.rt (E.To.body (fn := Try.f30) [.int .i64 2] ?_ ?_))
      · exact ⟨⟨by kernel_rfl, by kernel_rfl⟩, trivial⟩
      · intro w h
        exact ⟨by show Ending.returned (.int .i64 2) = _; unfold R2.Format; rw [hc3, cond_false, hc6, cond_true], h.ch.bel (fun _ h => h.elim)⟩
    · skip
      refine E.C.skip (E.To.code ?_)
      refine E.C.seq ?_
      refine E.C.seq ?_
      refine E.C.region ?_
      refine E.G.op (.int .i64 x) (fun w => by kernel_rfl) (by kernel_rfl) ?_
      refine E.G.op (.bool (decide (x ≥ 32))) (fun w => by kernel_rfl) (by kernel_rfl) ?_
      refine E.G.op (.bool (decide (x ≥ 32))) (fun w => by kernel_rfl) (by kernel_rfl) ?_
      refine E.G.cut 3 [(0, .int .i64 x), (2, .int .i64 0), (20, .bool ((decide (x ≥ 32)) && (decide (x ≤ 46))))] (fun _ => True) [] ?_ ?_
      · generalize hc7 : (decide (x ≥ 32)) = b8
        cases b8
        · skip
          refine E.G.skip (by kernel_rfl) (by kernel_rfl) ?_
          refine E.G.skip (by kernel_rfl) (by kernel_rfl) ?_
          refine E.G.op (.bool false) (fun w => by kernel_rfl) (by kernel_rfl) ?_
          exact E.G.end_pst ⟨by kernel_rfl, by kernel_rfl⟩ (List.Sublist.refl _) (fun _ h => h)
        · skip
          refine E.G.op (.int .i64 x) (fun w => by kernel_rfl) (by kernel_rfl) ?_
          refine E.G.op (.bool (decide (x ≤ 46))) (fun w => by kernel_rfl) (by kernel_rfl) ?_
          refine E.G.op (.bool (decide (x ≤ 46))) (fun w => by kernel_rfl) (by kernel_rfl) ?_
          exact E.G.end_pst ⟨by kernel_rfl, by kernel_rfl⟩ (List.Sublist.refl _) (fun _ h => h)
      refine E.To.code ?_
      refine E.C.cond ((decide (x ≥ 32)) && (decide (x ≤ 46))) (by kernel_rfl) (by kernel_rfl) (fun hc9 => ?_) (fun hc9 => ?_)
      · skip
        refine E.C.seq ?_
        refine E.C.region ?_
        refine E.G.op (.int .i64 3) (fun w => by kernel_rfl) (by kernel_rfl) ?_
        refine E.To.code ?_
        refine E.C.ret (E.P.rt (E.To.body (fn := Try.f30) [.int .i64 3] ?_ ?_))
        · exact ⟨⟨by kernel_rfl, by kernel_rfl⟩, trivial⟩
        · intro w h
          exact ⟨by show Ending.returned (.int .i64 3) = _; unfold R2.Format; rw [hc3, cond_false, hc6, cond_false, hc9, cond_true], h.ch.bel (fun _ h => h.elim)⟩
      · skip
        refine E.C.skip (E.To.code ?_)
        refine E.C.seq ?_
        refine E.C.seq ?_
        refine E.C.region ?_
        refine E.G.op (.int .i64 x) (fun w => by kernel_rfl) (by kernel_rfl) ?_
        refine E.G.op (.bool (decide (x ≥ 48))) (fun w => by kernel_rfl) (by kernel_rfl) ?_
        refine E.G.op (.bool (decide (x ≥ 48))) (fun w => by kernel_rfl) (by kernel_rfl) ?_
        refine E.G.cut 3 [(0, .int .i64 x), (2, .int .i64 0), (26, .bool ((decide (x ≥ 48)) && (decide (x ≤ 62))))] (fun _ => True) [] ?_ ?_
        · generalize hc10 : (decide (x ≥ 48)) = b11
          cases b11
          · skip
            refine E.G.skip (by kernel_rfl) (by kernel_rfl) ?_
            refine E.G.skip (by kernel_rfl) (by kernel_rfl) ?_
            refine E.G.op (.bool false) (fun w => by kernel_rfl) (by kernel_rfl) ?_
            exact E.G.end_pst ⟨by kernel_rfl, by kernel_rfl⟩ (List.Sublist.refl _) (fun _ h => h)
          · skip
            refine E.G.op (.int .i64 x) (fun w => by kernel_rfl) (by kernel_rfl) ?_
            refine E.G.op (.bool (decide (x ≤ 62))) (fun w => by kernel_rfl) (by kernel_rfl) ?_
            refine E.G.op (.bool (decide (x ≤ 62))) (fun w => by kernel_rfl) (by kernel_rfl) ?_
            exact E.G.end_pst ⟨by kernel_rfl, by kernel_rfl⟩ (List.Sublist.refl _) (fun _ h => h)
        refine E.To.code ?_
        refine E.C.cond ((decide (x ≥ 48)) && (decide (x ≤ 62))) (by kernel_rfl) (by kernel_rfl) (fun hc12 => ?_) (fun hc12 => ?_)
        · skip
          refine E.C.seq ?_
          refine E.C.region ?_
          refine E.G.op (.int .i64 4) (fun w => by kernel_rfl) (by kernel_rfl) ?_
          refine E.To.code ?_
          refine E.C.ret (E.P.rt (E.To.body (fn := Try.f30) [.int .i64 4] ?_ ?_))
          · exact ⟨⟨by kernel_rfl, by kernel_rfl⟩, trivial⟩
          · intro w h
            exact ⟨by show Ending.returned (.int .i64 4) = _; unfold R2.Format; rw [hc3, cond_false, hc6, cond_false, hc9, cond_false, hc12, cond_true], h.ch.bel (fun _ h => h.elim)⟩
        · skip
          refine E.C.skip (E.To.code ?_)
          refine E.C.seq ?_
          refine E.C.seq ?_
          refine E.C.region ?_
          refine E.G.op (.int .i64 x) (fun w => by kernel_rfl) (by kernel_rfl) ?_
          refine E.G.op (.bool (decide (x ≥ 64))) (fun w => by kernel_rfl) (by kernel_rfl) ?_
          refine E.G.op (.bool (decide (x ≥ 64))) (fun w => by kernel_rfl) (by kernel_rfl) ?_
          refine E.G.cut 3 [(0, .int .i64 x), (2, .int .i64 0), (32, .bool ((decide (x ≥ 64)) && (decide (x ≤ 78))))] (fun _ => True) [] ?_ ?_
          · generalize hc13 : (decide (x ≥ 64)) = b14
            cases b14
            · skip
              refine E.G.skip (by kernel_rfl) (by kernel_rfl) ?_
              refine E.G.skip (by kernel_rfl) (by kernel_rfl) ?_
              refine E.G.op (.bool false) (fun w => by kernel_rfl) (by kernel_rfl) ?_
              exact E.G.end_pst ⟨by kernel_rfl, by kernel_rfl⟩ (List.Sublist.refl _) (fun _ h => h)
            · skip
              refine E.G.op (.int .i64 x) (fun w => by kernel_rfl) (by kernel_rfl) ?_
              refine E.G.op (.bool (decide (x ≤ 78))) (fun w => by kernel_rfl) (by kernel_rfl) ?_
              refine E.G.op (.bool (decide (x ≤ 78))) (fun w => by kernel_rfl) (by kernel_rfl) ?_
              exact E.G.end_pst ⟨by kernel_rfl, by kernel_rfl⟩ (List.Sublist.refl _) (fun _ h => h)
          refine E.To.code ?_
          refine E.C.cond ((decide (x ≥ 64)) && (decide (x ≤ 78))) (by kernel_rfl) (by kernel_rfl) (fun hc15 => ?_) (fun hc15 => ?_)
          · skip
            refine E.C.seq ?_
            refine E.C.region ?_
            refine E.G.op (.int .i64 5) (fun w => by kernel_rfl) (by kernel_rfl) ?_
            refine E.To.code ?_
            refine E.C.ret (E.P.rt (E.To.body (fn := Try.f30) [.int .i64 5] ?_ ?_))
            · exact ⟨⟨by kernel_rfl, by kernel_rfl⟩, trivial⟩
            · intro w h
              exact ⟨by show Ending.returned (.int .i64 5) = _; unfold R2.Format; rw [hc3, cond_false, hc6, cond_false, hc9, cond_false, hc12, cond_false, hc15, cond_true], h.ch.bel (fun _ h => h.elim)⟩
          · skip
            refine E.C.skip (E.To.code ?_)
            refine E.C.seq ?_
            refine E.C.seq ?_
            refine E.C.region ?_
            refine E.G.op (.int .i64 x) (fun w => by kernel_rfl) (by kernel_rfl) ?_
            refine E.G.op (.bool (decide (x ≥ 80))) (fun w => by kernel_rfl) (by kernel_rfl) ?_
            refine E.G.op (.bool (decide (x ≥ 80))) (fun w => by kernel_rfl) (by kernel_rfl) ?_
            refine E.G.cut 3 [(0, .int .i64 x), (2, .int .i64 0), (38, .bool ((decide (x ≥ 80)) && (decide (x ≤ 86))))] (fun _ => True) [] ?_ ?_
            · generalize hc16 : (decide (x ≥ 80)) = b17
              cases b17
              · skip
                refine E.G.skip (by kernel_rfl) (by kernel_rfl) ?_
                refine E.G.skip (by kernel_rfl) (by kernel_rfl) ?_
                refine E.G.op (.bool false) (fun w => by kernel_rfl) (by kernel_rfl) ?_
                exact E.G.end_pst ⟨by kernel_rfl, by kernel_rfl⟩ (List.Sublist.refl _) (fun _ h => h)
              · skip
                refine E.G.op (.int .i64 x) (fun w => by kernel_rfl) (by kernel_rfl) ?_
                refine E.G.op (.bool (decide (x ≤ 86))) (fun w => by kernel_rfl) (by kernel_rfl) ?_
                refine E.G.op (.bool (decide (x ≤ 86))) (fun w => by kernel_rfl) (by kernel_rfl) ?_
                exact E.G.end_pst ⟨by kernel_rfl, by kernel_rfl⟩ (List.Sublist.refl _) (fun _ h => h)
            refine E.To.code ?_
            refine E.C.cond ((decide (x ≥ 80)) && (decide (x ≤ 86))) (by kernel_rfl) (by kernel_rfl) (fun hc18 => ?_) (fun hc18 => ?_)
            · skip
              refine E.C.seq ?_
              refine E.C.region ?_
              refine E.G.op (.int .i64 6) (fun w => by kernel_rfl) (by kernel_rfl) ?_
              refine E.To.code ?_
              refine E.C.ret (E.P.rt (E.To.body (fn := Try.f30) [.int .i64 6] ?_ ?_))
              · exact ⟨⟨by kernel_rfl, by kernel_rfl⟩, trivial⟩
              · intro w h
                exact ⟨by show Ending.returned (.int .i64 6) = _; unfold R2.Format; rw [hc3, cond_false, hc6, cond_false, hc9, cond_false, hc12, cond_false, hc15, cond_false, hc18, cond_true], h.ch.bel (fun _ h => h.elim)⟩
            · skip
              refine E.C.skip (E.To.code ?_)
              refine E.C.seq ?_
              refine E.C.seq ?_
              refine E.C.region ?_
              refine E.G.op (.int .i64 x) (fun w => by kernel_rfl) (by kernel_rfl) ?_
              refine E.G.op (.bool (decide (x ≥ 88))) (fun w => by kernel_rfl) (by kernel_rfl) ?_
              refine E.G.op (.bool (decide (x ≥ 88))) (fun w => by kernel_rfl) (by kernel_rfl) ?_
              refine E.G.cut 3 [(0, .int .i64 x), (2, .int .i64 0), (44, .bool ((decide (x ≥ 88)) && (decide (x ≤ 94))))] (fun _ => True) [] ?_ ?_
              · generalize hc19 : (decide (x ≥ 88)) = b20
                cases b20
                · skip
                  refine E.G.skip (by kernel_rfl) (by kernel_rfl) ?_
                  refine E.G.skip (by kernel_rfl) (by kernel_rfl) ?_
                  refine E.G.op (.bool false) (fun w => by kernel_rfl) (by kernel_rfl) ?_
                  exact E.G.end_pst ⟨by kernel_rfl, by kernel_rfl⟩ (List.Sublist.refl _) (fun _ h => h)
                · skip
                  refine E.G.op (.int .i64 x) (fun w => by kernel_rfl) (by kernel_rfl) ?_
                  refine E.G.op (.bool (decide (x ≤ 94))) (fun w => by kernel_rfl) (by kernel_rfl) ?_
                  refine E.G.op (.bool (decide (x ≤ 94))) (fun w => by kernel_rfl) (by kernel_rfl) ?_
                  exact E.G.end_pst ⟨by kernel_rfl, by kernel_rfl⟩ (List.Sublist.refl _) (fun _ h => h)
              refine E.To.code ?_
              refine E.C.cond ((decide (x ≥ 88)) && (decide (x ≤ 94))) (by kernel_rfl) (by kernel_rfl) (fun hc21 => ?_) (fun hc21 => ?_)
              · skip
                refine E.C.seq ?_
                refine E.C.region ?_
                refine E.G.op (.int .i64 7) (fun w => by kernel_rfl) (by kernel_rfl) ?_
                refine E.To.code ?_
                refine E.C.ret (E.P.rt (E.To.body (fn := Try.f30) [.int .i64 7] ?_ ?_))
                · exact ⟨⟨by kernel_rfl, by kernel_rfl⟩, trivial⟩
                · intro w h
                  exact ⟨by show Ending.returned (.int .i64 7) = _; unfold R2.Format; rw [hc3, cond_false, hc6, cond_false, hc9, cond_false, hc12, cond_false, hc15, cond_false, hc18, cond_false, hc21, cond_true], h.ch.bel (fun _ h => h.elim)⟩
              · skip
                refine E.C.skip (E.To.code ?_)
                refine E.C.seq ?_
                refine E.C.seq ?_
                refine E.C.region ?_
                refine E.G.op (.int .i64 x) (fun w => by kernel_rfl) (by kernel_rfl) ?_
                refine E.G.op (.bool (decide (x ≥ 96))) (fun w => by kernel_rfl) (by kernel_rfl) ?_
                refine E.G.op (.bool (decide (x ≥ 96))) (fun w => by kernel_rfl) (by kernel_rfl) ?_
                refine E.G.cut 3 [(0, .int .i64 x), (2, .int .i64 0), (50, .bool ((decide (x ≥ 96)) && (decide (x ≤ 109))))] (fun _ => True) [] ?_ ?_
                · generalize hc22 : (decide (x ≥ 96)) = b23
                  cases b23
                  · skip
                    refine E.G.skip (by kernel_rfl) (by kernel_rfl) ?_
                    refine E.G.skip (by kernel_rfl) (by kernel_rfl) ?_
                    refine E.G.op (.bool false) (fun w => by kernel_rfl) (by kernel_rfl) ?_
                    exact E.G.end_pst ⟨by kernel_rfl, by kernel_rfl⟩ (List.Sublist.refl _) (fun _ h => h)
                  · skip
                    refine E.G.op (.int .i64 x) (fun w => by kernel_rfl) (by kernel_rfl) ?_
                    refine E.G.op (.bool (decide (x ≤ 109))) (fun w => by kernel_rfl) (by kernel_rfl) ?_
                    refine E.G.op (.bool (decide (x ≤ 109))) (fun w => by kernel_rfl) (by kernel_rfl) ?_
                    exact E.G.end_pst ⟨by kernel_rfl, by kernel_rfl⟩ (List.Sublist.refl _) (fun _ h => h)
                refine E.To.code ?_
                refine E.C.cond ((decide (x ≥ 96)) && (decide (x ≤ 109))) (by kernel_rfl) (by kernel_rfl) (fun hc24 => ?_) (fun hc24 => ?_)
                · skip
                  refine E.C.seq ?_
                  refine E.C.region ?_
                  refine E.G.op (.int .i64 8) (fun w => by kernel_rfl) (by kernel_rfl) ?_
                  refine E.To.code ?_
                  refine E.C.ret (E.P.rt (E.To.body (fn := Try.f30) [.int .i64 8] ?_ ?_))
                  · exact ⟨⟨by kernel_rfl, by kernel_rfl⟩, trivial⟩
                  · intro w h
                    exact ⟨by show Ending.returned (.int .i64 8) = _; unfold R2.Format; rw [hc3, cond_false, hc6, cond_false, hc9, cond_false, hc12, cond_false, hc15, cond_false, hc18, cond_false, hc21, cond_false, hc24, cond_true], h.ch.bel (fun _ h => h.elim)⟩
                · skip
                  refine E.C.skip (E.To.code ?_)
                  refine E.C.seq ?_
                  refine E.C.seq ?_
                  refine E.C.region ?_
                  refine E.G.op (.int .i64 x) (fun w => by kernel_rfl) (by kernel_rfl) ?_
                  refine E.G.op (.bool (x == 112)) (fun w => by kernel_rfl) (by kernel_rfl) ?_
                  refine E.G.op (.bool (x == 112)) (fun w => by kernel_rfl) (by kernel_rfl) ?_
                  refine E.G.cut 3 [(0, .int .i64 x), (2, .int .i64 0), (56, .bool ((x == 112) || (x == 113)))] (fun _ => True) [] ?_ ?_
                  · generalize hc25 : (x == 112) = b26
                    cases b26
                    · skip
                      refine E.G.op (.int .i64 x) (fun w => by kernel_rfl) (by kernel_rfl) ?_
                      refine E.G.op (.bool (x == 113)) (fun w => by kernel_rfl) (by kernel_rfl) ?_
                      refine E.G.op (.bool (x == 113)) (fun w => by kernel_rfl) (by kernel_rfl) ?_
                      exact E.G.end_pst ⟨by kernel_rfl, by kernel_rfl⟩ (List.Sublist.refl _) (fun _ h => h)
                    · skip
                      refine E.G.skip (by kernel_rfl) (by kernel_rfl) ?_
                      refine E.G.skip (by kernel_rfl) (by kernel_rfl) ?_
                      refine E.G.op (.bool true) (fun w => by kernel_rfl) (by kernel_rfl) ?_
                      exact E.G.end_pst ⟨by kernel_rfl, by kernel_rfl⟩ (List.Sublist.refl _) (fun _ h => h)
                  refine E.To.code ?_
                  refine E.C.cond ((x == 112) || (x == 113)) (by kernel_rfl) (by kernel_rfl) (fun hc27 => ?_) (fun hc27 => ?_)
                  · skip
                    refine E.C.seq ?_
                    refine E.C.region ?_
                    refine E.G.op (.int .i64 9) (fun w => by kernel_rfl) (by kernel_rfl) ?_
                    refine E.To.code ?_
                    refine E.C.ret (E.P.rt (E.To.body (fn := Try.f30) [.int .i64 9] ?_ ?_))
                    · exact ⟨⟨by kernel_rfl, by kernel_rfl⟩, trivial⟩
                    · intro w h
                      exact ⟨by show Ending.returned (.int .i64 9) = _; unfold R2.Format; rw [hc3, cond_false, hc6, cond_false, hc9, cond_false, hc12, cond_false, hc15, cond_false, hc18, cond_false, hc21, cond_false, hc24, cond_false, hc27, cond_true], h.ch.bel (fun _ h => h.elim)⟩
                  · skip
                    refine E.C.skip (E.To.code ?_)
                    refine E.C.seq ?_
                    refine E.C.seq ?_
                    refine E.C.region ?_
                    refine E.G.op (.int .i64 x) (fun w => by kernel_rfl) (by kernel_rfl) ?_
                    refine E.G.op (.bool (decide (x ≥ 128))) (fun w => by kernel_rfl) (by kernel_rfl) ?_
                    refine E.G.op (.bool (decide (x ≥ 128))) (fun w => by kernel_rfl) (by kernel_rfl) ?_
                    refine E.G.cut 3 [(0, .int .i64 x), (2, .int .i64 0), (62, .bool ((decide (x ≥ 128)) && (decide (x ≤ 130))))] (fun _ => True) [] ?_ ?_
                    · generalize hc28 : (decide (x ≥ 128)) = b29
                      cases b29
                      · skip
                        refine E.G.skip (by kernel_rfl) (by kernel_rfl) ?_
                        refine E.G.skip (by kernel_rfl) (by kernel_rfl) ?_
                        refine E.G.op (.bool false) (fun w => by kernel_rfl) (by kernel_rfl) ?_
                        exact E.G.end_pst ⟨by kernel_rfl, by kernel_rfl⟩ (List.Sublist.refl _) (fun _ h => h)
                      · skip
                        refine E.G.op (.int .i64 x) (fun w => by kernel_rfl) (by kernel_rfl) ?_
                        refine E.G.op (.bool (decide (x ≤ 130))) (fun w => by kernel_rfl) (by kernel_rfl) ?_
                        refine E.G.op (.bool (decide (x ≤ 130))) (fun w => by kernel_rfl) (by kernel_rfl) ?_
                        exact E.G.end_pst ⟨by kernel_rfl, by kernel_rfl⟩ (List.Sublist.refl _) (fun _ h => h)
                    refine E.To.code ?_
                    refine E.C.cond ((decide (x ≥ 128)) && (decide (x ≤ 130))) (by kernel_rfl) (by kernel_rfl) (fun hc30 => ?_) (fun hc30 => ?_)
                    · skip
                      refine E.C.seq ?_
                      refine E.C.region ?_
                      refine E.G.op (.int .i64 x) (fun w => by kernel_rfl) (by kernel_rfl) ?_
                      refine E.G.op (.int .i64 (IntKind.wrap .i64 (x - 128))) (fun w => by kernel_rfl) (by kernel_rfl) ?_
                      refine E.G.op (.int .i64 (IntKind.wrap .i64 ((IntKind.wrap .i64 (x - 128)) + 10))) (fun w => by kernel_rfl) (by kernel_rfl) ?_
                      refine E.G.op (.int .i64 (IntKind.wrap .i64 ((IntKind.wrap .i64 (x - 128)) + 10))) (fun w => by kernel_rfl) (by kernel_rfl) ?_
                      refine E.To.code ?_
                      refine E.C.ret (E.P.rt (E.To.body (fn := Try.f30) [.int .i64 (IntKind.wrap .i64 ((IntKind.wrap .i64 (x - 128)) + 10))] ?_ ?_))
                      · exact ⟨⟨by kernel_rfl, by kernel_rfl⟩, trivial⟩
                      · intro w h
                        exact ⟨by show Ending.returned (.int .i64 (IntKind.wrap .i64 ((IntKind.wrap .i64 (x - 128)) + 10))) = _; unfold R2.Format; rw [hc3, cond_false, hc6, cond_false, hc9, cond_false, hc12, cond_false, hc15, cond_false, hc18, cond_false, hc21, cond_false, hc24, cond_false, hc27, cond_false, hc30, cond_true], h.ch.bel (fun _ h => h.elim)⟩
                    · skip
                      refine E.C.skip (E.To.code ?_)
                      refine E.C.seq ?_
                      refine E.C.region ?_
                      refine E.G.op (.int .i64 0) (fun w => by kernel_rfl) (by kernel_rfl) ?_
                      refine E.To.code ?_
                      refine E.C.ret (E.To.body (fn := Try.f30) [.int .i64 0] ?_ ?_)
                      · exact ⟨⟨by kernel_rfl, by kernel_rfl⟩, trivial⟩
                      · intro w h
                        exact ⟨by show Ending.returned (.int .i64 0) = _; unfold R2.Format; rw [hc3, cond_false, hc6, cond_false, hc9, cond_false, hc12, cond_false, hc15, cond_false, hc18, cond_false, hc21, cond_false, hc24, cond_false, hc27, cond_false, hc30, cond_false], h.ch.bel (fun _ h => h.elim)⟩

theorem E.bif_all {p : Int → Prop} {c : Bool} {a b : Int} (ha : c = true → p a) (hb : c = false → p b) : p (bif c then a else b) := by cases c <;> simp_all
theorem R2.Format_bd (x : Int) : 0 ≤ R2.Format x ∧ R2.Format x ≤ 12 := by
  unfold R2.Format
  repeat (refine E.bif_all (p := fun y => 0 ≤ y ∧ y ≤ 12) (fun _ => by decide) (fun _ => ?_))
  refine E.bif_all (p := fun y => 0 ≤ y ∧ y ≤ 12) (fun h => ?_) (fun _ => by decide)
  have h1 : x = 128 ∨ x = 129 ∨ x = 130 := by simp at h; omega
  rcases h1 with rfl | rfl | rfl <;> decide

def R2.Size (x : Int) : Int := ([0, 1, 2, 2, 3, 6, 3, 7, 2, 5, 2, 2, 2].getD (0 + ((R2.Format (IntKind.wrap .i64 x))).toNat * 1) 0)
theorem R2_Size (x : Int) (w : World) : Calls Try.prog 26 #[.int .u8 x] w fun e w' => e = .returned (.int .i64 (R2.Size x)) ∧ Bel w w' := by
  have hb := R2.Format_bd (IntKind.wrap .i64 x)
  refine E.enter (n := 10) (S := fun _ => False) Try.func26 rfl rfl (by kernel_rfl) (E.Hp.start w) ?_
  refine E.C.seq ?_
  refine E.C.region ?_
  refine E.G.op (.int .i64 0) (fun w => by kernel_rfl) (by kernel_rfl) ?_
  refine E.To.code ?_
  refine E.C.seq ?_
  refine E.C.region ?_
  refine E.G.val (.agg #[.int .i64 0, .int .i64 1, .int .i64 2, .int .i64 2, .int .i64 3, .int .i64 6, .int .i64 3, .int .i64 7, .int .i64 2, .int .i64 5, .int .i64 2, .int .i64 2, .int .i64 2]) (by kernel_rfl) (fun w h => E.run_build #[.int .i64 0, .int .i64 1, .int .i64 2, .int .i64 2, .int .i64 3, .int .i64 6, .int .i64 3, .int .i64 7, .int .i64 2, .int .i64 5, .int .i64 2, .int .i64 2, .int .i64 2] (by kernel_rfl) w) ?_
  refine E.G.new (fun g => .pointer (some ⟨g, 0, none⟩)) [.int .i64 0, .int .i64 0, .int .i64 0, .int .i64 0, .int .i64 0, .int .i64 0, .int .i64 0, .int .i64 0, .int .i64 0, .int .i64 0, .int .i64 0, .int .i64 0, .int .i64 0] 79 (fun w => by kernel_rfl) (by kernel_rfl) (fun g1 => ?_)
  refine E.G.store 0 [.int .i64 0, .int .i64 1, .int .i64 2, .int .i64 2, .int .i64 3, .int .i64 6, .int .i64 3, .int .i64 7, .int .i64 2, .int .i64 5, .int .i64 2, .int .i64 2, .int .i64 2] rfl rfl (by kernel_rfl) (by kernel_rfl) ?_
  refine E.To.code ?_
  refine E.C.seq ?_
  refine E.C.region ?_
  refine E.G.op (.int .u8 x) (fun w => by kernel_rfl) (by kernel_rfl) ?_
  refine E.G.op (.int .i64 (IntKind.wrap .i64 x)) (fun w => by kernel_rfl) (by kernel_rfl) ?_
  refine E.G.call (.int .i64 (R2.Format (IntKind.wrap .i64 x))) (fun w h => R2_Format _ w) (fun w _ => by kernel_rfl) (by kernel_rfl) ?_
  refine E.G.val (.pointer (some ⟨g1, 0 + ((R2.Format (IntKind.wrap .i64 x))).toNat * 1, none⟩)) (by kernel_rfl) (fun w h => E.idxA (e := 3) g1 0 13 1 .i64 ((R2.Format (IntKind.wrap .i64 x))) (by kernel_rfl) (by kernel_rfl) (by kernel_rfl) (by kernel_rfl) (by omega) (by omega) w) ?_
  refine E.G.val (.int .i64 ([0, 1, 2, 2, 3, 6, 3, 7, 2, 5, 2, 2, 2].getD (0 + ((R2.Format (IntKind.wrap .i64 x))).toNat * 1) 0)) (by kernel_rfl) (fun w h => E.run_load h 0 rfl rfl (E.ld_row (xs := [0, 1, 2, 2, 3, 6, 3, 7, 2, 5, 2, 2, 2]) (by kernel_rfl) (by simp only [List.length_cons, List.length_nil]; omega))) ?_
  refine E.G.op (.int .i64 ([0, 1, 2, 2, 3, 6, 3, 7, 2, 5, 2, 2, 2].getD (0 + ((R2.Format (IntKind.wrap .i64 x))).toNat * 1) 0)) (fun w => by kernel_rfl) (by kernel_rfl) ?_
  refine E.To.code ?_
  refine E.C.weak [(2, .int .i64 ([0, 1, 2, 2, 3, 6, 3, 7, 2, 5, 2, 2, 2].getD (0 + ((R2.Format (IntKind.wrap .i64 x))).toNat * 1) 0))] [] ⟨by kernel_rfl, by kernel_rfl⟩ (List.nil_sublist _) ?_
  refine E.C.ret (E.To.body (fn := Try.f26) [.int .i64 ([0, 1, 2, 2, 3, 6, 3, 7, 2, 5, 2, 2, 2].getD (0 + ((R2.Format (IntKind.wrap .i64 x))).toNat * 1) 0)] ?_ ?_)
  · exact ⟨⟨by kernel_rfl, by kernel_rfl⟩, trivial⟩
  · intro w h
    exact ⟨rfl, h.ch.bel (fun _ h => h.elim)⟩

def R2.extend (x : Int) : Int := (bif (decide (x ≥ 128)) then (IntKind.wrap .u32 ((IntKind.wrap .u32 x) + 4294967040)) else (IntKind.wrap .u32 x))
theorem R2_extend (x : Int) (w : World) : Calls Try.prog 31 #[.int .u8 x] w fun e w' => e = .returned (.int .u32 (R2.extend x)) ∧ Bel w w' := by
  refine E.enter (n := 10) (S := fun _ => False) Try.func31 rfl rfl (by kernel_rfl) (E.Hp.start w) ?_
  refine E.C.seq ?_
  refine E.C.region ?_
  refine E.G.op (.int .u32 0) (fun w => by kernel_rfl) (by kernel_rfl) ?_
  refine E.To.code ?_
  refine E.C.seq ?_
  refine E.C.seq ?_
  refine E.C.region ?_
  refine E.G.op (.int .u8 x) (fun w => by kernel_rfl) (by kernel_rfl) ?_
  refine E.G.op (.bool (decide (x ≥ 128))) (fun w => by kernel_rfl) (by kernel_rfl) ?_
  refine E.To.code ?_
  refine E.C.cond (decide (x ≥ 128)) (by kernel_rfl) (by kernel_rfl) (fun hc1 => ?_) (fun hc1 => ?_)
  · skip
    refine E.C.seq ?_
    refine E.C.region ?_
    refine E.G.op (.int .u8 x) (fun w => by kernel_rfl) (by kernel_rfl) ?_
    refine E.G.op (.int .u32 (IntKind.wrap .u32 x)) (fun w => by kernel_rfl) (by kernel_rfl) ?_
    refine E.G.op (.int .u32 (IntKind.wrap .u32 ((IntKind.wrap .u32 x) + 4294967040))) (fun w => by kernel_rfl) (by kernel_rfl) ?_
    refine E.G.op (.int .u32 (IntKind.wrap .u32 ((IntKind.wrap .u32 x) + 4294967040))) (fun w => by kernel_rfl) (by kernel_rfl) ?_
    refine E.To.code ?_
    refine E.C.ret (E.P.rt (E.To.body (fn := Try.f31) [.int .u32 (IntKind.wrap .u32 ((IntKind.wrap .u32 x) + 4294967040))] ?_ ?_))
    · exact ⟨⟨by kernel_rfl, by kernel_rfl⟩, trivial⟩
    · intro w h
      exact ⟨by show Ending.returned (.int .u32 (IntKind.wrap .u32 ((IntKind.wrap .u32 x) + 4294967040))) = _; unfold R2.extend; rw [hc1, cond_true], h.ch.bel (fun _ h => h.elim)⟩
  · skip
    refine E.C.skip (E.To.code ?_)
    refine E.C.seq ?_
    refine E.C.region ?_
    refine E.G.op (.int .u8 x) (fun w => by kernel_rfl) (by kernel_rfl) ?_
    refine E.G.op (.int .u32 (IntKind.wrap .u32 x)) (fun w => by kernel_rfl) (by kernel_rfl) ?_
    refine E.G.op (.int .u32 (IntKind.wrap .u32 x)) (fun w => by kernel_rfl) (by kernel_rfl) ?_
    refine E.To.code ?_
    refine E.C.ret (E.To.body (fn := Try.f31) [.int .u32 (IntKind.wrap .u32 x)] ?_ ?_)
    · exact ⟨⟨by kernel_rfl, by kernel_rfl⟩, trivial⟩
    · intro w h
      exact ⟨by show Ending.returned (.int .u32 (IntKind.wrap .u32 x)) = _; unfold R2.extend; rw [hc1, cond_false], h.ch.bel (fun _ h => h.elim)⟩

def R2.long (s : ByteArray) : Int := (IntKind.wrap .u32 ((IntKind.wrap .u32 ((IntKind.wrap .u32 ((IntKind.wrap .u32 (W.byt s.data.toList 0)) + (IntKind.wrap .u32 (256 * (IntKind.wrap .u32 (W.byt s.data.toList 1)))))) + (IntKind.wrap .u32 (65536 * (IntKind.wrap .u32 (W.byt s.data.toList 2)))))) + (IntKind.wrap .u32 (16777216 * (IntKind.wrap .u32 (W.byt s.data.toList 3))))))
theorem R2_long (s : ByteArray) (hs : 4 ≤ s.size) (w : World) : Calls Try.prog 39 #[.string s] w fun e w' => e = .returned (.int .u32 (R2.long s)) ∧ Bel w w' := by
  refine E.enter (n := 21) (S := fun _ => False) Try.func39 rfl rfl (by kernel_rfl) (E.Hp.start w) ?_
  refine E.C.seq ?_
  refine E.C.region ?_
  refine E.G.op (.int .u32 0) (fun w => by kernel_rfl) (by kernel_rfl) ?_
  refine E.To.code ?_
  refine E.C.seq ?_
  refine E.C.quiet (by kernel_rfl) (by kernel_rfl) ?_
  refine E.W.op (.string s) (fun w => by kernel_rfl) (by kernel_rfl) ?_
  refine E.W.val (.int .u8 (W.byt s.data.toList 0)) (by kernel_rfl) (fun w h => E.sidx s .i64 0 (by kernel_rfl) (by kernel_rfl) (by kernel_rfl) (by omega) (by omega) w) ?_
  refine E.W.op (.int .u32 (IntKind.wrap .u32 (W.byt s.data.toList 0))) (fun w => by kernel_rfl) (by kernel_rfl) ?_
  refine E.W.op (.string s) (fun w => by kernel_rfl) (by kernel_rfl) ?_
  refine E.W.val (.int .u8 (W.byt s.data.toList 1)) (by kernel_rfl) (fun w h => E.sidx s .i64 1 (by kernel_rfl) (by kernel_rfl) (by kernel_rfl) (by omega) (by omega) w) ?_
  refine E.W.op (.int .u32 (IntKind.wrap .u32 (W.byt s.data.toList 1))) (fun w => by kernel_rfl) (by kernel_rfl) ?_
  refine E.W.op (.int .u32 (IntKind.wrap .u32 (256 * (IntKind.wrap .u32 (W.byt s.data.toList 1))))) (fun w => by kernel_rfl) (by kernel_rfl) ?_
  refine E.W.op (.int .u32 (IntKind.wrap .u32 ((IntKind.wrap .u32 (W.byt s.data.toList 0)) + (IntKind.wrap .u32 (256 * (IntKind.wrap .u32 (W.byt s.data.toList 1))))))) (fun w => by kernel_rfl) (by kernel_rfl) ?_
  refine E.W.op (.string s) (fun w => by kernel_rfl) (by kernel_rfl) ?_
  refine E.W.val (.int .u8 (W.byt s.data.toList 2)) (by kernel_rfl) (fun w h => E.sidx s .i64 2 (by kernel_rfl) (by kernel_rfl) (by kernel_rfl) (by omega) (by omega) w) ?_
  refine E.W.op (.int .u32 (IntKind.wrap .u32 (W.byt s.data.toList 2))) (fun w => by kernel_rfl) (by kernel_rfl) ?_
  refine E.W.op (.int .u32 (IntKind.wrap .u32 (65536 * (IntKind.wrap .u32 (W.byt s.data.toList 2))))) (fun w => by kernel_rfl) (by kernel_rfl) ?_
  refine E.W.op (.int .u32 (IntKind.wrap .u32 ((IntKind.wrap .u32 ((IntKind.wrap .u32 (W.byt s.data.toList 0)) + (IntKind.wrap .u32 (256 * (IntKind.wrap .u32 (W.byt s.data.toList 1)))))) + (IntKind.wrap .u32 (65536 * (IntKind.wrap .u32 (W.byt s.data.toList 2))))))) (fun w => by kernel_rfl) (by kernel_rfl) ?_
  refine E.W.op (.string s) (fun w => by kernel_rfl) (by kernel_rfl) ?_
  refine E.W.val (.int .u8 (W.byt s.data.toList 3)) (by kernel_rfl) (fun w h => E.sidx s .i64 3 (by kernel_rfl) (by kernel_rfl) (by kernel_rfl) (by omega) (by omega) w) ?_
  refine E.W.op (.int .u32 (IntKind.wrap .u32 (W.byt s.data.toList 3))) (fun w => by kernel_rfl) (by kernel_rfl) ?_
  refine E.W.op (.int .u32 (IntKind.wrap .u32 (16777216 * (IntKind.wrap .u32 (W.byt s.data.toList 3))))) (fun w => by kernel_rfl) (by kernel_rfl) ?_
  refine E.W.op (.int .u32 (IntKind.wrap .u32 ((IntKind.wrap .u32 ((IntKind.wrap .u32 ((IntKind.wrap .u32 (W.byt s.data.toList 0)) + (IntKind.wrap .u32 (256 * (IntKind.wrap .u32 (W.byt s.data.toList 1)))))) + (IntKind.wrap .u32 (65536 * (IntKind.wrap .u32 (W.byt s.data.toList 2)))))) + (IntKind.wrap .u32 (16777216 * (IntKind.wrap .u32 (W.byt s.data.toList 3))))))) (fun w => by kernel_rfl) (by kernel_rfl) ?_
  refine E.W.op (.int .u32 (IntKind.wrap .u32 ((IntKind.wrap .u32 ((IntKind.wrap .u32 ((IntKind.wrap .u32 (W.byt s.data.toList 0)) + (IntKind.wrap .u32 (256 * (IntKind.wrap .u32 (W.byt s.data.toList 1)))))) + (IntKind.wrap .u32 (65536 * (IntKind.wrap .u32 (W.byt s.data.toList 2)))))) + (IntKind.wrap .u32 (16777216 * (IntKind.wrap .u32 (W.byt s.data.toList 3))))))) (fun w => by kernel_rfl) (by kernel_rfl) ?_
  refine E.W.done (E.To.code ?_)
  refine E.C.weak [(2, .int .u32 (IntKind.wrap .u32 ((IntKind.wrap .u32 ((IntKind.wrap .u32 ((IntKind.wrap .u32 (W.byt s.data.toList 0)) + (IntKind.wrap .u32 (256 * (IntKind.wrap .u32 (W.byt s.data.toList 1)))))) + (IntKind.wrap .u32 (65536 * (IntKind.wrap .u32 (W.byt s.data.toList 2)))))) + (IntKind.wrap .u32 (16777216 * (IntKind.wrap .u32 (W.byt s.data.toList 3)))))))] [] ⟨by kernel_rfl, by kernel_rfl⟩ (List.Sublist.refl _) ?_
  refine E.C.ret (E.To.body (fn := Try.f39) [.int .u32 (IntKind.wrap .u32 ((IntKind.wrap .u32 ((IntKind.wrap .u32 ((IntKind.wrap .u32 (W.byt s.data.toList 0)) + (IntKind.wrap .u32 (256 * (IntKind.wrap .u32 (W.byt s.data.toList 1)))))) + (IntKind.wrap .u32 (65536 * (IntKind.wrap .u32 (W.byt s.data.toList 2)))))) + (IntKind.wrap .u32 (16777216 * (IntKind.wrap .u32 (W.byt s.data.toList 3))))))] ?_ ?_)
  · exact ⟨⟨by kernel_rfl, by kernel_rfl⟩, trivial⟩
  · intro w h
    exact ⟨rfl, h.ch.bel (fun _ h => h.elim)⟩

def R2.Ends (i : K.Ins) : Bool := (bif ((i.op == 1) || ((i.op == 2) || ((i.op == 3) || ((i.op == 4) || ((i.op == 20) || ((i.op == 21) || ((i.op == 112) || ((i.op == 113) || (i.op == 128))))))))) then true else ((decide (i.op ≥ 96)) && (decide (i.op ≤ 109))))
theorem R2_Ends (i : K.Ins) (w : World) : Calls Try.prog 24 #[.agg #[.int .i64 i.op, .int .i64 i.d, .int .i64 i.s, .int .i64 i.ix, .int .i64 i.sc, .int .u32 i.imm, .int .i64 i.sz]] w fun e w' => e = .returned (.bool (R2.Ends i)) ∧ Bel w w' := by
  refine E.enter (n := 23) (S := fun _ => False) Try.func24 rfl rfl (by kernel_rfl) (E.Hp.start w) ?_
  refine E.C.seq ?_
  refine E.C.region ?_
  refine E.G.new (fun g => .pointer (some ⟨g, 0, none⟩)) [.int .i64 i.op, .int .i64 i.d, .int .i64 i.s, .int .i64 i.ix, .int .i64 i.sc, .int .u32 i.imm, .int .i64 i.sz] 27 (fun w => by kernel_rfl) (by kernel_rfl) (fun g1 => ?_)
  refine E.G.op (.bool false) (fun w => by kernel_rfl) (by kernel_rfl) ?_
  refine E.To.code ?_
  refine E.C.seq ?_
  refine E.C.seq ?_
  refine E.C.region ?_
  refine E.G.op (.pointer (some ⟨g1, 0, none⟩)) (fun w => by kernel_rfl) (by kernel_rfl) ?_
  refine E.G.val (.int .i64 i.op) (by kernel_rfl) (fun w h => E.run_load h 0 rfl rfl (by kernel_rfl)) ?_
  refine E.To.code ?_
  refine E.C.block ?_
  refine E.C.seq ?_
  refine E.C.seq ?_
  refine E.C.region ?_
  refine E.G.op (.bool (i.op == 1)) (fun w => by kernel_rfl) (by kernel_rfl) ?_
  refine E.G.op (.bool (i.op == 1)) (fun w => by kernel_rfl) (by kernel_rfl) ?_
  refine E.To.code ?_
  refine E.C.thencut [(1, .pointer (some ⟨g1, 0, none⟩)), (2, .bool false), (5, .bool ((i.op == 1) || ((i.op == 2) || ((i.op == 3) || ((i.op == 4) || ((i.op == 20) || ((i.op == 21) || ((i.op == 112) || ((i.op == 113) || (i.op == 128))))))))))] (fun _ => True) [(g1, [.int .i64 i.op, .int .i64 i.d, .int .i64 i.s, .int .i64 i.ix, .int .i64 i.sc, .int .u32 i.imm, .int .i64 i.sz])] ?_ ?_
  · skip
    generalize hc2 : (i.op == 1) = b3
    cases b3
    · skip
      refine E.C.condF (by kernel_rfl) (by kernel_rfl) ?_
      refine E.C.seq ?_
      refine E.C.region ?_
      refine E.G.op (.bool (i.op == 2)) (fun w => by kernel_rfl) (by kernel_rfl) ?_
      refine E.G.op (.bool (i.op == 2)) (fun w => by kernel_rfl) (by kernel_rfl) ?_
      refine E.To.code ?_
      generalize hc4 : (i.op == 2) = b5
      cases b5
      · skip
        refine E.C.condF (by kernel_rfl) (by kernel_rfl) ?_
        refine E.C.seq ?_
        refine E.C.region ?_
        refine E.G.op (.bool (i.op == 3)) (fun w => by kernel_rfl) (by kernel_rfl) ?_
        refine E.G.op (.bool (i.op == 3)) (fun w => by kernel_rfl) (by kernel_rfl) ?_
        refine E.To.code ?_
        generalize hc6 : (i.op == 3) = b7
        cases b7
        · skip
          refine E.C.condF (by kernel_rfl) (by kernel_rfl) ?_
          refine E.C.seq ?_
          refine E.C.region ?_
          refine E.G.op (.bool (i.op == 4)) (fun w => by kernel_rfl) (by kernel_rfl) ?_
          refine E.G.op (.bool (i.op == 4)) (fun w => by kernel_rfl) (by kernel_rfl) ?_
          refine E.To.code ?_
          generalize hc8 : (i.op == 4) = b9
          cases b9
          · skip
            refine E.C.condF (by kernel_rfl) (by kernel_rfl) ?_
            refine E.C.seq ?_
            refine E.C.region ?_
            refine E.G.op (.bool (i.op == 20)) (fun w => by kernel_rfl) (by kernel_rfl) ?_
            refine E.G.op (.bool (i.op == 20)) (fun w => by kernel_rfl) (by kernel_rfl) ?_
            refine E.To.code ?_
            generalize hc10 : (i.op == 20) = b11
            cases b11
            · skip
              refine E.C.condF (by kernel_rfl) (by kernel_rfl) ?_
              refine E.C.seq ?_
              refine E.C.region ?_
              refine E.G.op (.bool (i.op == 21)) (fun w => by kernel_rfl) (by kernel_rfl) ?_
              refine E.G.op (.bool (i.op == 21)) (fun w => by kernel_rfl) (by kernel_rfl) ?_
              refine E.To.code ?_
              refine E.C.weak [(1, .pointer (some ⟨g1, 0, none⟩)), (2, .bool false), (4, .int .i64 i.op), (5, .bool (i.op == 21))] [(g1, [.int .i64 i.op, .int .i64 i.d, .int .i64 i.s, .int .i64 i.ix, .int .i64 i.sc, .int .u32 i.imm, .int .i64 i.sz])] ⟨by kernel_rfl, by kernel_rfl⟩ (List.Sublist.refl _) ?_
              generalize hc12 : (i.op == 21) = b13
              cases b13
              · skip
                refine E.C.condF (by kernel_rfl) (by kernel_rfl) ?_
                refine E.C.seq ?_
                refine E.C.region ?_
                refine E.G.op (.bool (i.op == 112)) (fun w => by kernel_rfl) (by kernel_rfl) ?_
                refine E.G.op (.bool (i.op == 112)) (fun w => by kernel_rfl) (by kernel_rfl) ?_
                refine E.To.code ?_
                generalize hc14 : (i.op == 112) = b15
                cases b15
                · skip
                  refine E.C.condF (by kernel_rfl) (by kernel_rfl) ?_
                  refine E.C.seq ?_
                  refine E.C.region ?_
                  refine E.G.op (.bool (i.op == 113)) (fun w => by kernel_rfl) (by kernel_rfl) ?_
                  refine E.G.op (.bool (i.op == 113)) (fun w => by kernel_rfl) (by kernel_rfl) ?_
                  refine E.To.code ?_
                  generalize hc16 : (i.op == 113) = b17
                  cases b17
                  · skip
                    refine E.C.condF (by kernel_rfl) (by kernel_rfl) ?_
                    refine E.C.region ?_
                    refine E.G.op (.bool (i.op == 128)) (fun w => by kernel_rfl) (by kernel_rfl) ?_
                    refine E.G.op (.bool (i.op == 128)) (fun w => by kernel_rfl) (by kernel_rfl) ?_
                    exact E.To.pst ⟨by kernel_rfl, by kernel_rfl⟩ (List.Sublist.refl _) (fun _ h => h)
                  · skip
                    refine E.C.condT (by kernel_rfl) (by kernel_rfl) ?_
                    exact E.C.skip (E.To.pst ⟨by kernel_rfl, by kernel_rfl⟩ (List.Sublist.refl _) (fun _ h => h))
                · skip
                  refine E.C.condT (by kernel_rfl) (by kernel_rfl) ?_
                  exact E.C.skip (E.To.pst ⟨by kernel_rfl, by kernel_rfl⟩ (List.Sublist.refl _) (fun _ h => h))
              · skip
                refine E.C.condT (by kernel_rfl) (by kernel_rfl) ?_
                exact E.C.skip (E.To.pst ⟨by kernel_rfl, by kernel_rfl⟩ (List.Sublist.refl _) (fun _ h => h))
            · skip
              refine E.C.condT (by kernel_rfl) (by kernel_rfl) ?_
              exact E.C.skip (E.To.pst ⟨by kernel_rfl, by kernel_rfl⟩ (List.Sublist.refl _) (fun _ h => h))
          · skip
            refine E.C.condT (by kernel_rfl) (by kernel_rfl) ?_
            exact E.C.skip (E.To.pst ⟨by kernel_rfl, by kernel_rfl⟩ (List.Sublist.refl _) (fun _ h => h))
        · skip
          refine E.C.condT (by kernel_rfl) (by kernel_rfl) ?_
          exact E.C.skip (E.To.pst ⟨by kernel_rfl, by kernel_rfl⟩ (List.Sublist.refl _) (fun _ h => h))
      · skip
        refine E.C.condT (by kernel_rfl) (by kernel_rfl) ?_
        exact E.C.skip (E.To.pst ⟨by kernel_rfl, by kernel_rfl⟩ (List.Sublist.refl _) (fun _ h => h))
    · skip
      refine E.C.condT (by kernel_rfl) (by kernel_rfl) ?_
      exact E.C.skip (E.To.pst ⟨by kernel_rfl, by kernel_rfl⟩ (List.Sublist.refl _) (fun _ h => h))
  refine E.C.cond ((i.op == 1) || ((i.op == 2) || ((i.op == 3) || ((i.op == 4) || ((i.op == 20) || ((i.op == 21) || ((i.op == 112) || ((i.op == 113) || (i.op == 128))))))))) (by kernel_rfl) (by kernel_rfl) (fun hc18 => ?_) (fun hc18 => ?_)
  · skip
    refine E.C.seq ?_
    refine E.C.region ?_
    refine E.G.op (.bool true) (fun w => by kernel_rfl) (by kernel_rfl) ?_
    refine E.To.code ?_
    refine E.C.ret (E.P.rb (E.P.rt (E.To.body (fn := Try.f24) [.bool true] ?_ ?_)))
    · exact ⟨⟨by kernel_rfl, by kernel_rfl⟩, trivial⟩
    · intro w h
      exact ⟨by show Ending.returned (.bool true) = _; unfold R2.Ends; rw [hc18, cond_true], h.ch.bel (fun _ h => h.elim)⟩
  · skip
    refine E.C.skip (E.P.nb (E.To.code ?_))
    refine E.C.seq ?_
    refine E.C.region ?_
    refine E.G.op (.pointer (some ⟨g1, 0, none⟩)) (fun w => by kernel_rfl) (by kernel_rfl) ?_
    refine E.G.val (.int .i64 i.op) (by kernel_rfl) (fun w h => E.run_load h 0 rfl rfl (by kernel_rfl)) ?_
    refine E.G.op (.bool (decide (i.op ≥ 96))) (fun w => by kernel_rfl) (by kernel_rfl) ?_
    refine E.G.op (.bool (decide (i.op ≥ 96))) (fun w => by kernel_rfl) (by kernel_rfl) ?_
    refine E.G.cut 4 [(2, .bool false), (22, .bool ((decide (i.op ≥ 96)) && (decide (i.op ≤ 109))))] (fun _ => True) [(g1, [.int .i64 i.op, .int .i64 i.d, .int .i64 i.s, .int .i64 i.ix, .int .i64 i.sc, .int .u32 i.imm, .int .i64 i.sz])] ?_ ?_
    · generalize hc19 : (decide (i.op ≥ 96)) = b20
      cases b20
      · skip
        refine E.G.skip (by kernel_rfl) (by kernel_rfl) ?_
        refine E.G.skip (by kernel_rfl) (by kernel_rfl) ?_
        refine E.G.skip (by kernel_rfl) (by kernel_rfl) ?_
        refine E.G.op (.bool false) (fun w => by kernel_rfl) (by kernel_rfl) ?_
        exact E.G.end_pst ⟨by kernel_rfl, by kernel_rfl⟩ (List.Sublist.refl _) (fun _ h => h)
      · skip
        refine E.G.op (.pointer (some ⟨g1, 0, none⟩)) (fun w => by kernel_rfl) (by kernel_rfl) ?_
        refine E.G.val (.int .i64 i.op) (by kernel_rfl) (fun w h => E.run_load h 0 rfl rfl (by kernel_rfl)) ?_
        refine E.G.op (.bool (decide (i.op ≤ 109))) (fun w => by kernel_rfl) (by kernel_rfl) ?_
        refine E.G.op (.bool (decide (i.op ≤ 109))) (fun w => by kernel_rfl) (by kernel_rfl) ?_
        exact E.G.end_pst ⟨by kernel_rfl, by kernel_rfl⟩ (List.Sublist.refl _) (fun _ h => h)
    refine E.G.op (.bool ((decide (i.op ≥ 96)) && (decide (i.op ≤ 109)))) (fun w => by kernel_rfl) (by kernel_rfl) ?_
    refine E.To.code ?_
    refine E.C.ret (E.To.body (fn := Try.f24) [.bool ((decide (i.op ≥ 96)) && (decide (i.op ≤ 109)))] ?_ ?_)
    · exact ⟨⟨by kernel_rfl, by kernel_rfl⟩, trivial⟩
    · intro w h
      exact ⟨by show Ending.returned (.bool ((decide (i.op ≥ 96)) && (decide (i.op ≤ 109)))) = _; unfold R2.Ends; rw [hc18, cond_false], h.ch.bel (fun _ h => h.elim)⟩

def R2.Valid (i : K.Ins) : Bool := (bif (((R2.Format i.op) == 0) || (i.sz != (R2.Size (IntKind.wrap .u8 i.op)))) then false else ((((bif (((((R2.Format i.op) == 1) || ((R2.Format i.op) == 8)) || ((R2.Format i.op) == 9)) || ((R2.Format i.op) == 10)) then (i.d == 0) else (R2.reg i.d)) && (bif ((R2.Format i.op) == 12) then ((decide (i.s ≥ 0)) && (decide (i.s ≤ 4))) else (bif ((R2.Format i.op) == 11) then ((decide (i.s ≥ 0)) && (decide (i.s ≤ 3))) else (bif ((((R2.Format i.op) != 3) && ((R2.Format i.op) != 6)) && ((R2.Format i.op) != 7)) then (i.s == 0) else (R2.reg i.s))))) && (bif (((R2.Format i.op) == 7) && (i.ix != (-1))) then (((R2.reg i.ix) && (decide (i.sc ≥ 0))) && (decide (i.sc ≤ 3))) else ((i.ix == (-1)) && (i.sc == 0)))) && (bif ((R2.Format i.op) == 10) then (decide (i.imm < 256)) else (((((R2.Format i.op) == 5) || ((R2.Format i.op) == 7)) || ((R2.Format i.op) == 9)) || (bif ((((R2.Format i.op) == 4) || ((R2.Format i.op) == 6)) || ((R2.Format i.op) == 8)) then (R2.signed i.imm) else (i.imm == 0))))))
theorem R2_Valid (i : K.Ins) (w : World) : Calls Try.prog 20 #[.agg #[.int .i64 i.op, .int .i64 i.d, .int .i64 i.s, .int .i64 i.ix, .int .i64 i.sc, .int .u32 i.imm, .int .i64 i.sz]] w fun e w' => e = .returned (.bool (R2.Valid i)) ∧ Bel w w' := by
  refine E.enter (n := 147) (S := fun _ => False) Try.func20 rfl rfl (by kernel_rfl) (E.Hp.start w) ?_
  refine E.C.seq ?_
  refine E.C.region ?_
  refine E.G.new (fun g => .pointer (some ⟨g, 0, none⟩)) [.int .i64 i.op, .int .i64 i.d, .int .i64 i.s, .int .i64 i.ix, .int .i64 i.sc, .int .u32 i.imm, .int .i64 i.sz] 27 (fun w => by kernel_rfl) (by kernel_rfl) (fun g1 => ?_)
  refine E.G.op (.bool false) (fun w => by kernel_rfl) (by kernel_rfl) ?_
  refine E.To.code ?_
  refine E.C.seq ?_
  refine E.C.region ?_
  refine E.G.op (.pointer (some ⟨g1, 0, none⟩)) (fun w => by kernel_rfl) (by kernel_rfl) ?_
  refine E.G.val (.int .i64 i.op) (by kernel_rfl) (fun w h => E.run_load h 0 rfl rfl (by kernel_rfl)) ?_
  refine E.G.call (.int .i64 (R2.Format i.op)) (fun w h => R2_Format _ w) (fun w _ => by kernel_rfl) (by kernel_rfl) ?_
  refine E.G.op (.int .i64 (R2.Format i.op)) (fun w => by kernel_rfl) (by kernel_rfl) ?_
  refine E.To.code ?_
  refine E.C.seq ?_
  refine E.C.seq ?_
  refine E.C.quiet (by kernel_rfl) (by kernel_rfl) ?_
  refine E.W.op (.int .i64 (R2.Format i.op)) (fun w => by kernel_rfl) (by kernel_rfl) ?_
  refine E.W.op (.bool ((R2.Format i.op) == 0)) (fun w => by kernel_rfl) (by kernel_rfl) ?_
  refine E.W.op (.bool ((R2.Format i.op) == 0)) (fun w => by kernel_rfl) (by kernel_rfl) ?_
  refine E.W.cut 8 [(1, .pointer (some ⟨g1, 0, none⟩)), (2, .bool false), (3, .int .i64 (R2.Format i.op)), (21, .bool (((R2.Format i.op) == 0) || (i.sz != (R2.Size (IntKind.wrap .u8 i.op)))))] ?_ ?_
  · generalize hc2 : ((R2.Format i.op) == 0) = b3
    cases b3
    · skip
      refine E.W.op (.pointer (some ⟨g1, 6, none⟩)) (fun w => by kernel_rfl) (by kernel_rfl) ?_
      refine E.W.val (.int .i64 i.sz) (by kernel_rfl) (fun w h => E.run_load h 0 rfl rfl (by kernel_rfl)) ?_
      refine E.W.op (.pointer (some ⟨g1, 0, none⟩)) (fun w => by kernel_rfl) (by kernel_rfl) ?_
      refine E.W.val (.int .i64 i.op) (by kernel_rfl) (fun w h => E.run_load h 0 rfl rfl (by kernel_rfl)) ?_
      refine E.W.op (.int .u8 (IntKind.wrap .u8 i.op)) (fun w => by kernel_rfl) (by kernel_rfl) ?_
      refine E.W.call (.int .i64 (R2.Size (IntKind.wrap .u8 i.op))) (fun w h => R2_Size _ w) (fun w _ => by kernel_rfl) (by kernel_rfl) ?_
      refine E.W.op (.bool (i.sz != (R2.Size (IntKind.wrap .u8 i.op)))) (fun w => by kernel_rfl) (by kernel_rfl) ?_
      refine E.W.op (.bool (i.sz != (R2.Size (IntKind.wrap .u8 i.op)))) (fun w => by kernel_rfl) (by kernel_rfl) ?_
      exact E.W.end_cut ⟨by kernel_rfl, by kernel_rfl⟩
    · skip
      refine E.W.skip (by kernel_rfl) (by kernel_rfl) ?_
      refine E.W.skip (by kernel_rfl) (by kernel_rfl) ?_
      refine E.W.skip (by kernel_rfl) (by kernel_rfl) ?_
      refine E.W.skip (by kernel_rfl) (by kernel_rfl) ?_
      refine E.W.skip (by kernel_rfl) (by kernel_rfl) ?_
      refine E.W.skip (by kernel_rfl) (by kernel_rfl) ?_
      refine E.W.skip (by kernel_rfl) (by kernel_rfl) ?_
      refine E.W.op (.bool true) (fun w => by kernel_rfl) (by kernel_rfl) ?_
      exact E.W.end_cut ⟨by kernel_rfl, by kernel_rfl⟩
  refine E.W.done (E.To.code ?_)
  refine E.C.cond (((R2.Format i.op) == 0) || (i.sz != (R2.Size (IntKind.wrap .u8 i.op)))) (by kernel_rfl) (by kernel_rfl) (fun hc4 => ?_) (fun hc4 => ?_)
  · skip
    refine E.C.seq ?_
    refine E.C.region ?_
    refine E.G.op (.bool false) (fun w => by kernel_rfl) (by kernel_rfl) ?_
    refine E.To.code ?_
    refine E.C.ret (E.P.rt (E.To.body (fn := Try.f20) [.bool false] ?_ ?_))
    · exact ⟨⟨by kernel_rfl, by kernel_rfl⟩, trivial⟩
    · intro w h
      exact ⟨by show Ending.returned (.bool false) = _; unfold R2.Valid; rw [hc4, cond_true], h.ch.bel (fun _ h => h.elim)⟩
  · skip
    refine E.C.skip (E.To.code ?_)
    refine E.C.seq ?_
    refine E.C.region ?_
    refine E.G.op (.pointer (some ⟨g1, 1, none⟩)) (fun w => by kernel_rfl) (by kernel_rfl) ?_
    refine E.G.val (.int .i64 i.d) (by kernel_rfl) (fun w h => E.run_load h 0 rfl rfl (by kernel_rfl)) ?_
    refine E.G.call (.bool (R2.reg i.d)) (fun w h => R2_reg _ w) (fun w _ => by kernel_rfl) (by kernel_rfl) ?_
    refine E.G.op (.bool (R2.reg i.d)) (fun w => by kernel_rfl) (by kernel_rfl) ?_
    refine E.To.code ?_
    refine E.C.seq ?_
    refine E.C.region ?_
    refine E.G.op (.pointer (some ⟨g1, 2, none⟩)) (fun w => by kernel_rfl) (by kernel_rfl) ?_
    refine E.G.val (.int .i64 i.s) (by kernel_rfl) (fun w h => E.run_load h 0 rfl rfl (by kernel_rfl)) ?_
    refine E.G.call (.bool (R2.reg i.s)) (fun w h => R2_reg _ w) (fun w _ => by kernel_rfl) (by kernel_rfl) ?_
    refine E.G.op (.bool (R2.reg i.s)) (fun w => by kernel_rfl) (by kernel_rfl) ?_
    refine E.To.code ?_
    refine E.C.seq ?_
    refine E.C.seq ?_
    refine E.C.region ?_
    refine E.G.op (.int .i64 (R2.Format i.op)) (fun w => by kernel_rfl) (by kernel_rfl) ?_
    refine E.G.op (.bool ((R2.Format i.op) == 1)) (fun w => by kernel_rfl) (by kernel_rfl) ?_
    refine E.G.op (.bool ((R2.Format i.op) == 1)) (fun w => by kernel_rfl) (by kernel_rfl) ?_
    refine E.G.cut 3 [(1, .pointer (some ⟨g1, 0, none⟩)), (2, .bool false), (3, .int .i64 (R2.Format i.op)), (4, .bool (R2.reg i.d)), (5, .bool (R2.reg i.s)), (33, .bool (((R2.Format i.op) == 1) || ((R2.Format i.op) == 8)))] (fun _ => True) [(g1, [.int .i64 i.op, .int .i64 i.d, .int .i64 i.s, .int .i64 i.ix, .int .i64 i.sc, .int .u32 i.imm, .int .i64 i.sz])] ?_ ?_
    · generalize hc5 : ((R2.Format i.op) == 1) = b6
      cases b6
      · skip
        refine E.G.op (.int .i64 (R2.Format i.op)) (fun w => by kernel_rfl) (by kernel_rfl) ?_
        refine E.G.op (.bool ((R2.Format i.op) == 8)) (fun w => by kernel_rfl) (by kernel_rfl) ?_
        refine E.G.op (.bool ((R2.Format i.op) == 8)) (fun w => by kernel_rfl) (by kernel_rfl) ?_
        exact E.G.end_pst ⟨by kernel_rfl, by kernel_rfl⟩ (List.Sublist.refl _) (fun _ h => h)
      · skip
        refine E.G.skip (by kernel_rfl) (by kernel_rfl) ?_
        refine E.G.skip (by kernel_rfl) (by kernel_rfl) ?_
        refine E.G.op (.bool true) (fun w => by kernel_rfl) (by kernel_rfl) ?_
        exact E.G.end_pst ⟨by kernel_rfl, by kernel_rfl⟩ (List.Sublist.refl _) (fun _ h => h)
    refine E.G.op (.bool (((R2.Format i.op) == 1) || ((R2.Format i.op) == 8))) (fun w => by kernel_rfl) (by kernel_rfl) ?_
    refine E.G.cut 3 [(1, .pointer (some ⟨g1, 0, none⟩)), (2, .bool false), (3, .int .i64 (R2.Format i.op)), (4, .bool (R2.reg i.d)), (5, .bool (R2.reg i.s)), (37, .bool ((((R2.Format i.op) == 1) || ((R2.Format i.op) == 8)) || ((R2.Format i.op) == 9)))] (fun _ => True) [(g1, [.int .i64 i.op, .int .i64 i.d, .int .i64 i.s, .int .i64 i.ix, .int .i64 i.sc, .int .u32 i.imm, .int .i64 i.sz])] ?_ ?_
    · generalize hc7 : (((R2.Format i.op) == 1) || ((R2.Format i.op) == 8)) = b8
      cases b8
      · skip
        refine E.G.op (.int .i64 (R2.Format i.op)) (fun w => by kernel_rfl) (by kernel_rfl) ?_
        refine E.G.op (.bool ((R2.Format i.op) == 9)) (fun w => by kernel_rfl) (by kernel_rfl) ?_
        refine E.G.op (.bool ((R2.Format i.op) == 9)) (fun w => by kernel_rfl) (by kernel_rfl) ?_
        exact E.G.end_pst ⟨by kernel_rfl, by kernel_rfl⟩ (List.Sublist.refl _) (fun _ h => h)
      · skip
        refine E.G.skip (by kernel_rfl) (by kernel_rfl) ?_
        refine E.G.skip (by kernel_rfl) (by kernel_rfl) ?_
        refine E.G.op (.bool true) (fun w => by kernel_rfl) (by kernel_rfl) ?_
        exact E.G.end_pst ⟨by kernel_rfl, by kernel_rfl⟩ (List.Sublist.refl _) (fun _ h => h)
    refine E.G.op (.bool ((((R2.Format i.op) == 1) || ((R2.Format i.op) == 8)) || ((R2.Format i.op) == 9))) (fun w => by kernel_rfl) (by kernel_rfl) ?_
    refine E.G.cut 3 [(1, .pointer (some ⟨g1, 0, none⟩)), (2, .bool false), (3, .int .i64 (R2.Format i.op)), (4, .bool (R2.reg i.d)), (5, .bool (R2.reg i.s)), (41, .bool (((((R2.Format i.op) == 1) || ((R2.Format i.op) == 8)) || ((R2.Format i.op) == 9)) || ((R2.Format i.op) == 10)))] (fun _ => True) [(g1, [.int .i64 i.op, .int .i64 i.d, .int .i64 i.s, .int .i64 i.ix, .int .i64 i.sc, .int .u32 i.imm, .int .i64 i.sz])] ?_ ?_
    · generalize hc9 : ((((R2.Format i.op) == 1) || ((R2.Format i.op) == 8)) || ((R2.Format i.op) == 9)) = b10
      cases b10
      · skip
        refine E.G.op (.int .i64 (R2.Format i.op)) (fun w => by kernel_rfl) (by kernel_rfl) ?_
        refine E.G.op (.bool ((R2.Format i.op) == 10)) (fun w => by kernel_rfl) (by kernel_rfl) ?_
        refine E.G.op (.bool ((R2.Format i.op) == 10)) (fun w => by kernel_rfl) (by kernel_rfl) ?_
        exact E.G.end_pst ⟨by kernel_rfl, by kernel_rfl⟩ (List.Sublist.refl _) (fun _ h => h)
      · skip
        refine E.G.skip (by kernel_rfl) (by kernel_rfl) ?_
        refine E.G.skip (by kernel_rfl) (by kernel_rfl) ?_
        refine E.G.op (.bool true) (fun w => by kernel_rfl) (by kernel_rfl) ?_
        exact E.G.end_pst ⟨by kernel_rfl, by kernel_rfl⟩ (List.Sublist.refl _) (fun _ h => h)
    refine E.To.code ?_
    refine E.C.thencut [(1, .pointer (some ⟨g1, 0, none⟩)), (2, .bool false), (3, .int .i64 (R2.Format i.op)), (4, .bool (bif (((((R2.Format i.op) == 1) || ((R2.Format i.op) == 8)) || ((R2.Format i.op) == 9)) || ((R2.Format i.op) == 10)) then (i.d == 0) else (R2.reg i.d))), (5, .bool (R2.reg i.s))] (fun _ => True) [(g1, [.int .i64 i.op, .int .i64 i.d, .int .i64 i.s, .int .i64 i.ix, .int .i64 i.sc, .int .u32 i.imm, .int .i64 i.sz])] ?_ ?_
    · skip
      generalize hc11 : (((((R2.Format i.op) == 1) || ((R2.Format i.op) == 8)) || ((R2.Format i.op) == 9)) || ((R2.Format i.op) == 10)) = b12
      cases b12
      · skip
        refine E.C.condF (by kernel_rfl) (by kernel_rfl) ?_
        exact E.C.skip (E.To.pst ⟨by kernel_rfl, by kernel_rfl⟩ (List.Sublist.refl _) (fun _ h => h))
      · skip
        refine E.C.condT (by kernel_rfl) (by kernel_rfl) ?_
        refine E.C.region ?_
        refine E.G.op (.pointer (some ⟨g1, 1, none⟩)) (fun w => by kernel_rfl) (by kernel_rfl) ?_
        refine E.G.val (.int .i64 i.d) (by kernel_rfl) (fun w h => E.run_load h 0 rfl rfl (by kernel_rfl)) ?_
        refine E.G.op (.bool (i.d == 0)) (fun w => by kernel_rfl) (by kernel_rfl) ?_
        refine E.G.op (.bool (i.d == 0)) (fun w => by kernel_rfl) (by kernel_rfl) ?_
        exact E.To.pst ⟨by kernel_rfl, by kernel_rfl⟩ (List.Sublist.refl _) (fun _ h => h)
    refine E.C.seq ?_
    refine E.C.seq ?_
    refine E.C.region ?_
    refine E.G.op (.int .i64 (R2.Format i.op)) (fun w => by kernel_rfl) (by kernel_rfl) ?_
    refine E.G.op (.bool ((R2.Format i.op) != 3)) (fun w => by kernel_rfl) (by kernel_rfl) ?_
    refine E.G.op (.bool ((R2.Format i.op) != 3)) (fun w => by kernel_rfl) (by kernel_rfl) ?_
    refine E.G.cut 3 [(1, .pointer (some ⟨g1, 0, none⟩)), (2, .bool false), (3, .int .i64 (R2.Format i.op)), (4, .bool (bif (((((R2.Format i.op) == 1) || ((R2.Format i.op) == 8)) || ((R2.Format i.op) == 9)) || ((R2.Format i.op) == 10)) then (i.d == 0) else (R2.reg i.d))), (5, .bool (R2.reg i.s)), (50, .bool (((R2.Format i.op) != 3) && ((R2.Format i.op) != 6)))] (fun _ => True) [(g1, [.int .i64 i.op, .int .i64 i.d, .int .i64 i.s, .int .i64 i.ix, .int .i64 i.sc, .int .u32 i.imm, .int .i64 i.sz])] ?_ ?_
    · generalize hc13 : ((R2.Format i.op) != 3) = b14
      cases b14
      · skip
        refine E.G.skip (by kernel_rfl) (by kernel_rfl) ?_
        refine E.G.skip (by kernel_rfl) (by kernel_rfl) ?_
        refine E.G.op (.bool false) (fun w => by kernel_rfl) (by kernel_rfl) ?_
        exact E.G.end_pst ⟨by kernel_rfl, by kernel_rfl⟩ (List.Sublist.refl _) (fun _ h => h)
      · skip
        refine E.G.op (.int .i64 (R2.Format i.op)) (fun w => by kernel_rfl) (by kernel_rfl) ?_
        refine E.G.op (.bool ((R2.Format i.op) != 6)) (fun w => by kernel_rfl) (by kernel_rfl) ?_
        refine E.G.op (.bool ((R2.Format i.op) != 6)) (fun w => by kernel_rfl) (by kernel_rfl) ?_
        exact E.G.end_pst ⟨by kernel_rfl, by kernel_rfl⟩ (List.Sublist.refl _) (fun _ h => h)
    refine E.G.op (.bool (((R2.Format i.op) != 3) && ((R2.Format i.op) != 6))) (fun w => by kernel_rfl) (by kernel_rfl) ?_
    refine E.G.cut 3 [(1, .pointer (some ⟨g1, 0, none⟩)), (2, .bool false), (3, .int .i64 (R2.Format i.op)), (4, .bool (bif (((((R2.Format i.op) == 1) || ((R2.Format i.op) == 8)) || ((R2.Format i.op) == 9)) || ((R2.Format i.op) == 10)) then (i.d == 0) else (R2.reg i.d))), (5, .bool (R2.reg i.s)), (54, .bool ((((R2.Format i.op) != 3) && ((R2.Format i.op) != 6)) && ((R2.Format i.op) != 7)))] (fun _ => True) [(g1, [.int .i64 i.op, .int .i64 i.d, .int .i64 i.s, .int .i64 i.ix, .int .i64 i.sc, .int .u32 i.imm, .int .i64 i.sz])] ?_ ?_
    · generalize hc15 : (((R2.Format i.op) != 3) && ((R2.Format i.op) != 6)) = b16
      cases b16
      · skip
        refine E.G.skip (by kernel_rfl) (by kernel_rfl) ?_
        refine E.G.skip (by kernel_rfl) (by kernel_rfl) ?_
        refine E.G.op (.bool false) (fun w => by kernel_rfl) (by kernel_rfl) ?_
        exact E.G.end_pst ⟨by kernel_rfl, by kernel_rfl⟩ (List.Sublist.refl _) (fun _ h => h)
      · skip
        refine E.G.op (.int .i64 (R2.Format i.op)) (fun w => by kernel_rfl) (by kernel_rfl) ?_
        refine E.G.op (.bool ((R2.Format i.op) != 7)) (fun w => by kernel_rfl) (by kernel_rfl) ?_
        refine E.G.op (.bool ((R2.Format i.op) != 7)) (fun w => by kernel_rfl) (by kernel_rfl) ?_
        exact E.G.end_pst ⟨by kernel_rfl, by kernel_rfl⟩ (List.Sublist.refl _) (fun _ h => h)
    refine E.To.code ?_
    refine E.C.thencut [(1, .pointer (some ⟨g1, 0, none⟩)), (2, .bool false), (3, .int .i64 (R2.Format i.op)), (4, .bool (bif (((((R2.Format i.op) == 1) || ((R2.Format i.op) == 8)) || ((R2.Format i.op) == 9)) || ((R2.Format i.op) == 10)) then (i.d == 0) else (R2.reg i.d))), (5, .bool (bif ((((R2.Format i.op) != 3) && ((R2.Format i.op) != 6)) && ((R2.Format i.op) != 7)) then (i.s == 0) else (R2.reg i.s)))] (fun _ => True) [(g1, [.int .i64 i.op, .int .i64 i.d, .int .i64 i.s, .int .i64 i.ix, .int .i64 i.sc, .int .u32 i.imm, .int .i64 i.sz])] ?_ ?_
    · skip
      generalize hc17 : ((((R2.Format i.op) != 3) && ((R2.Format i.op) != 6)) && ((R2.Format i.op) != 7)) = b18
      cases b18
      · skip
        refine E.C.condF (by kernel_rfl) (by kernel_rfl) ?_
        exact E.C.skip (E.To.pst ⟨by kernel_rfl, by kernel_rfl⟩ (List.Sublist.refl _) (fun _ h => h))
      · skip
        refine E.C.condT (by kernel_rfl) (by kernel_rfl) ?_
        refine E.C.region ?_
        refine E.G.op (.pointer (some ⟨g1, 2, none⟩)) (fun w => by kernel_rfl) (by kernel_rfl) ?_
        refine E.G.val (.int .i64 i.s) (by kernel_rfl) (fun w h => E.run_load h 0 rfl rfl (by kernel_rfl)) ?_
        refine E.G.op (.bool (i.s == 0)) (fun w => by kernel_rfl) (by kernel_rfl) ?_
        refine E.G.op (.bool (i.s == 0)) (fun w => by kernel_rfl) (by kernel_rfl) ?_
        exact E.To.pst ⟨by kernel_rfl, by kernel_rfl⟩ (List.Sublist.refl _) (fun _ h => h)
    refine E.C.seq ?_
    refine E.C.seq ?_
    refine E.C.region ?_
    refine E.G.op (.int .i64 (R2.Format i.op)) (fun w => by kernel_rfl) (by kernel_rfl) ?_
    refine E.G.op (.bool ((R2.Format i.op) == 11)) (fun w => by kernel_rfl) (by kernel_rfl) ?_
    refine E.To.code ?_
    refine E.C.thencut [(1, .pointer (some ⟨g1, 0, none⟩)), (2, .bool false), (3, .int .i64 (R2.Format i.op)), (4, .bool (bif (((((R2.Format i.op) == 1) || ((R2.Format i.op) == 8)) || ((R2.Format i.op) == 9)) || ((R2.Format i.op) == 10)) then (i.d == 0) else (R2.reg i.d))), (5, .bool (bif ((R2.Format i.op) == 11) then ((decide (i.s ≥ 0)) && (decide (i.s ≤ 3))) else (bif ((((R2.Format i.op) != 3) && ((R2.Format i.op) != 6)) && ((R2.Format i.op) != 7)) then (i.s == 0) else (R2.reg i.s))))] (fun _ => True) [(g1, [.int .i64 i.op, .int .i64 i.d, .int .i64 i.s, .int .i64 i.ix, .int .i64 i.sc, .int .u32 i.imm, .int .i64 i.sz])] ?_ ?_
    · skip
      generalize hc19 : ((R2.Format i.op) == 11) = b20
      cases b20
      · skip
        refine E.C.condF (by kernel_rfl) (by kernel_rfl) ?_
        exact E.C.skip (E.To.pst ⟨by kernel_rfl, by kernel_rfl⟩ (List.Sublist.refl _) (fun _ h => h))
      · skip
        refine E.C.condT (by kernel_rfl) (by kernel_rfl) ?_
        refine E.C.region ?_
        refine E.G.op (.pointer (some ⟨g1, 2, none⟩)) (fun w => by kernel_rfl) (by kernel_rfl) ?_
        refine E.G.val (.int .i64 i.s) (by kernel_rfl) (fun w h => E.run_load h 0 rfl rfl (by kernel_rfl)) ?_
        refine E.G.op (.bool (decide (i.s ≥ 0))) (fun w => by kernel_rfl) (by kernel_rfl) ?_
        refine E.G.op (.bool (decide (i.s ≥ 0))) (fun w => by kernel_rfl) (by kernel_rfl) ?_
        refine E.G.cut 4 [(1, .pointer (some ⟨g1, 0, none⟩)), (2, .bool false), (3, .int .i64 (R2.Format i.op)), (4, .bool (bif (((((R2.Format i.op) == 1) || ((R2.Format i.op) == 8)) || ((R2.Format i.op) == 9)) || ((R2.Format i.op) == 10)) then (i.d == 0) else (R2.reg i.d))), (5, .bool (bif ((((R2.Format i.op) != 3) && ((R2.Format i.op) != 6)) && ((R2.Format i.op) != 7)) then (i.s == 0) else (R2.reg i.s))), (67, .bool ((decide (i.s ≥ 0)) && (decide (i.s ≤ 3))))] (fun _ => True) [(g1, [.int .i64 i.op, .int .i64 i.d, .int .i64 i.s, .int .i64 i.ix, .int .i64 i.sc, .int .u32 i.imm, .int .i64 i.sz])] ?_ ?_
        · generalize hc21 : (decide (i.s ≥ 0)) = b22
          cases b22
          · skip
            refine E.G.skip (by kernel_rfl) (by kernel_rfl) ?_
            refine E.G.skip (by kernel_rfl) (by kernel_rfl) ?_
            refine E.G.skip (by kernel_rfl) (by kernel_rfl) ?_
            refine E.G.op (.bool false) (fun w => by kernel_rfl) (by kernel_rfl) ?_
            exact E.G.end_pst ⟨by kernel_rfl, by kernel_rfl⟩ (List.Sublist.refl _) (fun _ h => h)
          · skip
            refine E.G.op (.pointer (some ⟨g1, 2, none⟩)) (fun w => by kernel_rfl) (by kernel_rfl) ?_
            refine E.G.val (.int .i64 i.s) (by kernel_rfl) (fun w h => E.run_load h 0 rfl rfl (by kernel_rfl)) ?_
            refine E.G.op (.bool (decide (i.s ≤ 3))) (fun w => by kernel_rfl) (by kernel_rfl) ?_
            refine E.G.op (.bool (decide (i.s ≤ 3))) (fun w => by kernel_rfl) (by kernel_rfl) ?_
            exact E.G.end_pst ⟨by kernel_rfl, by kernel_rfl⟩ (List.Sublist.refl _) (fun _ h => h)
        refine E.G.op (.bool ((decide (i.s ≥ 0)) && (decide (i.s ≤ 3)))) (fun w => by kernel_rfl) (by kernel_rfl) ?_
        exact E.To.pst ⟨by kernel_rfl, by kernel_rfl⟩ (List.Sublist.refl _) (fun _ h => h)
    refine E.C.seq ?_
    refine E.C.seq ?_
    refine E.C.region ?_
    refine E.G.op (.int .i64 (R2.Format i.op)) (fun w => by kernel_rfl) (by kernel_rfl) ?_
    refine E.G.op (.bool ((R2.Format i.op) == 12)) (fun w => by kernel_rfl) (by kernel_rfl) ?_
    refine E.To.code ?_
    refine E.C.thencut [(1, .pointer (some ⟨g1, 0, none⟩)), (2, .bool false), (3, .int .i64 (R2.Format i.op)), (4, .bool (bif (((((R2.Format i.op) == 1) || ((R2.Format i.op) == 8)) || ((R2.Format i.op) == 9)) || ((R2.Format i.op) == 10)) then (i.d == 0) else (R2.reg i.d))), (5, .bool (bif ((R2.Format i.op) == 12) then ((decide (i.s ≥ 0)) && (decide (i.s ≤ 4))) else (bif ((R2.Format i.op) == 11) then ((decide (i.s ≥ 0)) && (decide (i.s ≤ 3))) else (bif ((((R2.Format i.op) != 3) && ((R2.Format i.op) != 6)) && ((R2.Format i.op) != 7)) then (i.s == 0) else (R2.reg i.s)))))] (fun _ => True) [(g1, [.int .i64 i.op, .int .i64 i.d, .int .i64 i.s, .int .i64 i.ix, .int .i64 i.sc, .int .u32 i.imm, .int .i64 i.sz])] ?_ ?_
    · skip
      generalize hc23 : ((R2.Format i.op) == 12) = b24
      cases b24
      · skip
        refine E.C.condF (by kernel_rfl) (by kernel_rfl) ?_
        exact E.C.skip (E.To.pst ⟨by kernel_rfl, by kernel_rfl⟩ (List.Sublist.refl _) (fun _ h => h))
      · skip
        refine E.C.condT (by kernel_rfl) (by kernel_rfl) ?_
        refine E.C.region ?_
        refine E.G.op (.pointer (some ⟨g1, 2, none⟩)) (fun w => by kernel_rfl) (by kernel_rfl) ?_
        refine E.G.val (.int .i64 i.s) (by kernel_rfl) (fun w h => E.run_load h 0 rfl rfl (by kernel_rfl)) ?_
        refine E.G.op (.bool (decide (i.s ≥ 0))) (fun w => by kernel_rfl) (by kernel_rfl) ?_
        refine E.G.op (.bool (decide (i.s ≥ 0))) (fun w => by kernel_rfl) (by kernel_rfl) ?_
        refine E.G.cut 4 [(1, .pointer (some ⟨g1, 0, none⟩)), (2, .bool false), (3, .int .i64 (R2.Format i.op)), (4, .bool (bif (((((R2.Format i.op) == 1) || ((R2.Format i.op) == 8)) || ((R2.Format i.op) == 9)) || ((R2.Format i.op) == 10)) then (i.d == 0) else (R2.reg i.d))), (5, .bool (bif ((R2.Format i.op) == 11) then ((decide (i.s ≥ 0)) && (decide (i.s ≤ 3))) else (bif ((((R2.Format i.op) != 3) && ((R2.Format i.op) != 6)) && ((R2.Format i.op) != 7)) then (i.s == 0) else (R2.reg i.s)))), (77, .bool ((decide (i.s ≥ 0)) && (decide (i.s ≤ 4))))] (fun _ => True) [(g1, [.int .i64 i.op, .int .i64 i.d, .int .i64 i.s, .int .i64 i.ix, .int .i64 i.sc, .int .u32 i.imm, .int .i64 i.sz])] ?_ ?_
        · generalize hc25 : (decide (i.s ≥ 0)) = b26
          cases b26
          · skip
            refine E.G.skip (by kernel_rfl) (by kernel_rfl) ?_
            refine E.G.skip (by kernel_rfl) (by kernel_rfl) ?_
            refine E.G.skip (by kernel_rfl) (by kernel_rfl) ?_
            refine E.G.op (.bool false) (fun w => by kernel_rfl) (by kernel_rfl) ?_
            exact E.G.end_pst ⟨by kernel_rfl, by kernel_rfl⟩ (List.Sublist.refl _) (fun _ h => h)
          · skip
            refine E.G.op (.pointer (some ⟨g1, 2, none⟩)) (fun w => by kernel_rfl) (by kernel_rfl) ?_
            refine E.G.val (.int .i64 i.s) (by kernel_rfl) (fun w h => E.run_load h 0 rfl rfl (by kernel_rfl)) ?_
            refine E.G.op (.bool (decide (i.s ≤ 4))) (fun w => by kernel_rfl) (by kernel_rfl) ?_
            refine E.G.op (.bool (decide (i.s ≤ 4))) (fun w => by kernel_rfl) (by kernel_rfl) ?_
            exact E.G.end_pst ⟨by kernel_rfl, by kernel_rfl⟩ (List.Sublist.refl _) (fun _ h => h)
        refine E.G.op (.bool ((decide (i.s ≥ 0)) && (decide (i.s ≤ 4)))) (fun w => by kernel_rfl) (by kernel_rfl) ?_
        exact E.To.pst ⟨by kernel_rfl, by kernel_rfl⟩ (List.Sublist.refl _) (fun _ h => h)
    refine E.C.seq ?_
    refine E.C.region ?_
    refine E.G.op (.pointer (some ⟨g1, 3, none⟩)) (fun w => by kernel_rfl) (by kernel_rfl) ?_
    refine E.G.val (.int .i64 i.ix) (by kernel_rfl) (fun w h => E.run_load h 0 rfl rfl (by kernel_rfl)) ?_
    refine E.G.op (.bool (i.ix == (-1))) (fun w => by kernel_rfl) (by kernel_rfl) ?_
    refine E.G.op (.bool (i.ix == (-1))) (fun w => by kernel_rfl) (by kernel_rfl) ?_
    refine E.G.cut 4 [(1, .pointer (some ⟨g1, 0, none⟩)), (2, .bool false), (3, .int .i64 (R2.Format i.op)), (4, .bool (bif (((((R2.Format i.op) == 1) || ((R2.Format i.op) == 8)) || ((R2.Format i.op) == 9)) || ((R2.Format i.op) == 10)) then (i.d == 0) else (R2.reg i.d))), (5, .bool (bif ((R2.Format i.op) == 12) then ((decide (i.s ≥ 0)) && (decide (i.s ≤ 4))) else (bif ((R2.Format i.op) == 11) then ((decide (i.s ≥ 0)) && (decide (i.s ≤ 3))) else (bif ((((R2.Format i.op) != 3) && ((R2.Format i.op) != 6)) && ((R2.Format i.op) != 7)) then (i.s == 0) else (R2.reg i.s))))), (85, .bool ((i.ix == (-1)) && (i.sc == 0)))] (fun _ => True) [(g1, [.int .i64 i.op, .int .i64 i.d, .int .i64 i.s, .int .i64 i.ix, .int .i64 i.sc, .int .u32 i.imm, .int .i64 i.sz])] ?_ ?_
    · generalize hc27 : (i.ix == (-1)) = b28
      cases b28
      · skip
        refine E.G.skip (by kernel_rfl) (by kernel_rfl) ?_
        refine E.G.skip (by kernel_rfl) (by kernel_rfl) ?_
        refine E.G.skip (by kernel_rfl) (by kernel_rfl) ?_
        refine E.G.op (.bool false) (fun w => by kernel_rfl) (by kernel_rfl) ?_
        exact E.G.end_pst ⟨by kernel_rfl, by kernel_rfl⟩ (List.Sublist.refl _) (fun _ h => h)
      · skip
        refine E.G.op (.pointer (some ⟨g1, 4, none⟩)) (fun w => by kernel_rfl) (by kernel_rfl) ?_
        refine E.G.val (.int .i64 i.sc) (by kernel_rfl) (fun w h => E.run_load h 0 rfl rfl (by kernel_rfl)) ?_
        refine E.G.op (.bool (i.sc == 0)) (fun w => by kernel_rfl) (by kernel_rfl) ?_
        refine E.G.op (.bool (i.sc == 0)) (fun w => by kernel_rfl) (by kernel_rfl) ?_
        exact E.G.end_pst ⟨by kernel_rfl, by kernel_rfl⟩ (List.Sublist.refl _) (fun _ h => h)
    refine E.G.op (.bool ((i.ix == (-1)) && (i.sc == 0))) (fun w => by kernel_rfl) (by kernel_rfl) ?_
    refine E.To.code ?_
    refine E.C.seq ?_
    refine E.C.seq ?_
    refine E.C.region ?_
    refine E.G.op (.int .i64 (R2.Format i.op)) (fun w => by kernel_rfl) (by kernel_rfl) ?_
    refine E.G.op (.bool ((R2.Format i.op) == 7)) (fun w => by kernel_rfl) (by kernel_rfl) ?_
    refine E.G.op (.bool ((R2.Format i.op) == 7)) (fun w => by kernel_rfl) (by kernel_rfl) ?_
    refine E.G.cut 4 [(1, .pointer (some ⟨g1, 0, none⟩)), (2, .bool false), (3, .int .i64 (R2.Format i.op)), (4, .bool (bif (((((R2.Format i.op) == 1) || ((R2.Format i.op) == 8)) || ((R2.Format i.op) == 9)) || ((R2.Format i.op) == 10)) then (i.d == 0) else (R2.reg i.d))), (5, .bool (bif ((R2.Format i.op) == 12) then ((decide (i.s ≥ 0)) && (decide (i.s ≤ 4))) else (bif ((R2.Format i.op) == 11) then ((decide (i.s ≥ 0)) && (decide (i.s ≤ 3))) else (bif ((((R2.Format i.op) != 3) && ((R2.Format i.op) != 6)) && ((R2.Format i.op) != 7)) then (i.s == 0) else (R2.reg i.s))))), (6, .bool ((i.ix == (-1)) && (i.sc == 0))), (92, .bool (((R2.Format i.op) == 7) && (i.ix != (-1))))] (fun _ => True) [(g1, [.int .i64 i.op, .int .i64 i.d, .int .i64 i.s, .int .i64 i.ix, .int .i64 i.sc, .int .u32 i.imm, .int .i64 i.sz])] ?_ ?_
    · generalize hc29 : ((R2.Format i.op) == 7) = b30
      cases b30
      · skip
        refine E.G.skip (by kernel_rfl) (by kernel_rfl) ?_
        refine E.G.skip (by kernel_rfl) (by kernel_rfl) ?_
        refine E.G.skip (by kernel_rfl) (by kernel_rfl) ?_
        refine E.G.op (.bool false) (fun w => by kernel_rfl) (by kernel_rfl) ?_
        exact E.G.end_pst ⟨by kernel_rfl, by kernel_rfl⟩ (List.Sublist.refl _) (fun _ h => h)
      · skip
        refine E.G.op (.pointer (some ⟨g1, 3, none⟩)) (fun w => by kernel_rfl) (by kernel_rfl) ?_
        refine E.G.val (.int .i64 i.ix) (by kernel_rfl) (fun w h => E.run_load h 0 rfl rfl (by kernel_rfl)) ?_
        refine E.G.op (.bool (i.ix != (-1))) (fun w => by kernel_rfl) (by kernel_rfl) ?_
        refine E.G.op (.bool (i.ix != (-1))) (fun w => by kernel_rfl) (by kernel_rfl) ?_
        exact E.G.end_pst ⟨by kernel_rfl, by kernel_rfl⟩ (List.Sublist.refl _) (fun _ h => h)
    refine E.To.code ?_
    refine E.C.thencut [(1, .pointer (some ⟨g1, 0, none⟩)), (2, .bool false), (3, .int .i64 (R2.Format i.op)), (4, .bool (bif (((((R2.Format i.op) == 1) || ((R2.Format i.op) == 8)) || ((R2.Format i.op) == 9)) || ((R2.Format i.op) == 10)) then (i.d == 0) else (R2.reg i.d))), (5, .bool (bif ((R2.Format i.op) == 12) then ((decide (i.s ≥ 0)) && (decide (i.s ≤ 4))) else (bif ((R2.Format i.op) == 11) then ((decide (i.s ≥ 0)) && (decide (i.s ≤ 3))) else (bif ((((R2.Format i.op) != 3) && ((R2.Format i.op) != 6)) && ((R2.Format i.op) != 7)) then (i.s == 0) else (R2.reg i.s))))), (6, .bool (bif (((R2.Format i.op) == 7) && (i.ix != (-1))) then (((R2.reg i.ix) && (decide (i.sc ≥ 0))) && (decide (i.sc ≤ 3))) else ((i.ix == (-1)) && (i.sc == 0))))] (fun _ => True) [(g1, [.int .i64 i.op, .int .i64 i.d, .int .i64 i.s, .int .i64 i.ix, .int .i64 i.sc, .int .u32 i.imm, .int .i64 i.sz])] ?_ ?_
    · skip
      generalize hc31 : (((R2.Format i.op) == 7) && (i.ix != (-1))) = b32
      cases b32
      · skip
        refine E.C.condF (by kernel_rfl) (by kernel_rfl) ?_
        exact E.C.skip (E.To.pst ⟨by kernel_rfl, by kernel_rfl⟩ (List.Sublist.refl _) (fun _ h => h))
      · skip
        refine E.C.condT (by kernel_rfl) (by kernel_rfl) ?_
        refine E.C.region ?_
        refine E.G.op (.pointer (some ⟨g1, 3, none⟩)) (fun w => by kernel_rfl) (by kernel_rfl) ?_
        refine E.G.val (.int .i64 i.ix) (by kernel_rfl) (fun w h => E.run_load h 0 rfl rfl (by kernel_rfl)) ?_
        refine E.G.call (.bool (R2.reg i.ix)) (fun w h => R2_reg _ w) (fun w _ => by kernel_rfl) (by kernel_rfl) ?_
        refine E.G.op (.bool (R2.reg i.ix)) (fun w => by kernel_rfl) (by kernel_rfl) ?_
        refine E.G.cut 4 [(1, .pointer (some ⟨g1, 0, none⟩)), (2, .bool false), (3, .int .i64 (R2.Format i.op)), (4, .bool (bif (((((R2.Format i.op) == 1) || ((R2.Format i.op) == 8)) || ((R2.Format i.op) == 9)) || ((R2.Format i.op) == 10)) then (i.d == 0) else (R2.reg i.d))), (5, .bool (bif ((R2.Format i.op) == 12) then ((decide (i.s ≥ 0)) && (decide (i.s ≤ 4))) else (bif ((R2.Format i.op) == 11) then ((decide (i.s ≥ 0)) && (decide (i.s ≤ 3))) else (bif ((((R2.Format i.op) != 3) && ((R2.Format i.op) != 6)) && ((R2.Format i.op) != 7)) then (i.s == 0) else (R2.reg i.s))))), (6, .bool ((i.ix == (-1)) && (i.sc == 0))), (100, .bool ((R2.reg i.ix) && (decide (i.sc ≥ 0))))] (fun _ => True) [(g1, [.int .i64 i.op, .int .i64 i.d, .int .i64 i.s, .int .i64 i.ix, .int .i64 i.sc, .int .u32 i.imm, .int .i64 i.sz])] ?_ ?_
        · generalize hc33 : (R2.reg i.ix) = b34
          cases b34
          · skip
            refine E.G.skip (by kernel_rfl) (by kernel_rfl) ?_
            refine E.G.skip (by kernel_rfl) (by kernel_rfl) ?_
            refine E.G.skip (by kernel_rfl) (by kernel_rfl) ?_
            refine E.G.op (.bool false) (fun w => by kernel_rfl) (by kernel_rfl) ?_
            exact E.G.end_pst ⟨by kernel_rfl, by kernel_rfl⟩ (List.Sublist.refl _) (fun _ h => h)
          · skip
            refine E.G.op (.pointer (some ⟨g1, 4, none⟩)) (fun w => by kernel_rfl) (by kernel_rfl) ?_
            refine E.G.val (.int .i64 i.sc) (by kernel_rfl) (fun w h => E.run_load h 0 rfl rfl (by kernel_rfl)) ?_
            refine E.G.op (.bool (decide (i.sc ≥ 0))) (fun w => by kernel_rfl) (by kernel_rfl) ?_
            refine E.G.op (.bool (decide (i.sc ≥ 0))) (fun w => by kernel_rfl) (by kernel_rfl) ?_
            exact E.G.end_pst ⟨by kernel_rfl, by kernel_rfl⟩ (List.Sublist.refl _) (fun _ h => h)
        refine E.G.op (.bool ((R2.reg i.ix) && (decide (i.sc ≥ 0)))) (fun w => by kernel_rfl) (by kernel_rfl) ?_
        refine E.G.cut 4 [(1, .pointer (some ⟨g1, 0, none⟩)), (2, .bool false), (3, .int .i64 (R2.Format i.op)), (4, .bool (bif (((((R2.Format i.op) == 1) || ((R2.Format i.op) == 8)) || ((R2.Format i.op) == 9)) || ((R2.Format i.op) == 10)) then (i.d == 0) else (R2.reg i.d))), (5, .bool (bif ((R2.Format i.op) == 12) then ((decide (i.s ≥ 0)) && (decide (i.s ≤ 4))) else (bif ((R2.Format i.op) == 11) then ((decide (i.s ≥ 0)) && (decide (i.s ≤ 3))) else (bif ((((R2.Format i.op) != 3) && ((R2.Format i.op) != 6)) && ((R2.Format i.op) != 7)) then (i.s == 0) else (R2.reg i.s))))), (6, .bool ((i.ix == (-1)) && (i.sc == 0))), (105, .bool (((R2.reg i.ix) && (decide (i.sc ≥ 0))) && (decide (i.sc ≤ 3))))] (fun _ => True) [(g1, [.int .i64 i.op, .int .i64 i.d, .int .i64 i.s, .int .i64 i.ix, .int .i64 i.sc, .int .u32 i.imm, .int .i64 i.sz])] ?_ ?_
        · generalize hc35 : ((R2.reg i.ix) && (decide (i.sc ≥ 0))) = b36
          cases b36
          · skip
            refine E.G.skip (by kernel_rfl) (by kernel_rfl) ?_
            refine E.G.skip (by kernel_rfl) (by kernel_rfl) ?_
            refine E.G.skip (by kernel_rfl) (by kernel_rfl) ?_
            refine E.G.op (.bool false) (fun w => by kernel_rfl) (by kernel_rfl) ?_
            exact E.G.end_pst ⟨by kernel_rfl, by kernel_rfl⟩ (List.Sublist.refl _) (fun _ h => h)
          · skip
            refine E.G.op (.pointer (some ⟨g1, 4, none⟩)) (fun w => by kernel_rfl) (by kernel_rfl) ?_
            refine E.G.val (.int .i64 i.sc) (by kernel_rfl) (fun w h => E.run_load h 0 rfl rfl (by kernel_rfl)) ?_
            refine E.G.op (.bool (decide (i.sc ≤ 3))) (fun w => by kernel_rfl) (by kernel_rfl) ?_
            refine E.G.op (.bool (decide (i.sc ≤ 3))) (fun w => by kernel_rfl) (by kernel_rfl) ?_
            exact E.G.end_pst ⟨by kernel_rfl, by kernel_rfl⟩ (List.Sublist.refl _) (fun _ h => h)
        refine E.G.op (.bool (((R2.reg i.ix) && (decide (i.sc ≥ 0))) && (decide (i.sc ≤ 3)))) (fun w => by kernel_rfl) (by kernel_rfl) ?_
        exact E.To.pst ⟨by kernel_rfl, by kernel_rfl⟩ (List.Sublist.refl _) (fun _ h => h)
    refine E.C.seq ?_
    refine E.C.region ?_
    refine E.G.op (.pointer (some ⟨g1, 5, none⟩)) (fun w => by kernel_rfl) (by kernel_rfl) ?_
    refine E.G.val (.int .u32 i.imm) (by kernel_rfl) (fun w h => E.run_load h 0 rfl rfl (by kernel_rfl)) ?_
    refine E.G.op (.bool (i.imm == 0)) (fun w => by kernel_rfl) (by kernel_rfl) ?_
    refine E.G.op (.bool (i.imm == 0)) (fun w => by kernel_rfl) (by kernel_rfl) ?_
    refine E.To.code ?_
    refine E.C.seq ?_
    refine E.C.seq ?_
    refine E.C.region ?_
    refine E.G.op (.int .i64 (R2.Format i.op)) (fun w => by kernel_rfl) (by kernel_rfl) ?_
    refine E.G.op (.bool ((R2.Format i.op) == 4)) (fun w => by kernel_rfl) (by kernel_rfl) ?_
    refine E.G.op (.bool ((R2.Format i.op) == 4)) (fun w => by kernel_rfl) (by kernel_rfl) ?_
    refine E.G.cut 3 [(1, .pointer (some ⟨g1, 0, none⟩)), (2, .bool false), (3, .int .i64 (R2.Format i.op)), (4, .bool (bif (((((R2.Format i.op) == 1) || ((R2.Format i.op) == 8)) || ((R2.Format i.op) == 9)) || ((R2.Format i.op) == 10)) then (i.d == 0) else (R2.reg i.d))), (5, .bool (bif ((R2.Format i.op) == 12) then ((decide (i.s ≥ 0)) && (decide (i.s ≤ 4))) else (bif ((R2.Format i.op) == 11) then ((decide (i.s ≥ 0)) && (decide (i.s ≤ 3))) else (bif ((((R2.Format i.op) != 3) && ((R2.Format i.op) != 6)) && ((R2.Format i.op) != 7)) then (i.s == 0) else (R2.reg i.s))))), (6, .bool (bif (((R2.Format i.op) == 7) && (i.ix != (-1))) then (((R2.reg i.ix) && (decide (i.sc ≥ 0))) && (decide (i.sc ≤ 3))) else ((i.ix == (-1)) && (i.sc == 0)))), (7, .bool (i.imm == 0)), (114, .bool (((R2.Format i.op) == 4) || ((R2.Format i.op) == 6)))] (fun _ => True) [(g1, [.int .i64 i.op, .int .i64 i.d, .int .i64 i.s, .int .i64 i.ix, .int .i64 i.sc, .int .u32 i.imm, .int .i64 i.sz])] ?_ ?_
    · generalize hc37 : ((R2.Format i.op) == 4) = b38
      cases b38
      · skip
        refine E.G.op (.int .i64 (R2.Format i.op)) (fun w => by kernel_rfl) (by kernel_rfl) ?_
        refine E.G.op (.bool ((R2.Format i.op) == 6)) (fun w => by kernel_rfl) (by kernel_rfl) ?_
        refine E.G.op (.bool ((R2.Format i.op) == 6)) (fun w => by kernel_rfl) (by kernel_rfl) ?_
        exact E.G.end_pst ⟨by kernel_rfl, by kernel_rfl⟩ (List.Sublist.refl _) (fun _ h => h)
      · skip
        refine E.G.skip (by kernel_rfl) (by kernel_rfl) ?_
        refine E.G.skip (by kernel_rfl) (by kernel_rfl) ?_
        refine E.G.op (.bool true) (fun w => by kernel_rfl) (by kernel_rfl) ?_
        exact E.G.end_pst ⟨by kernel_rfl, by kernel_rfl⟩ (List.Sublist.refl _) (fun _ h => h)
    refine E.G.op (.bool (((R2.Format i.op) == 4) || ((R2.Format i.op) == 6))) (fun w => by kernel_rfl) (by kernel_rfl) ?_
    refine E.G.cut 3 [(1, .pointer (some ⟨g1, 0, none⟩)), (2, .bool false), (3, .int .i64 (R2.Format i.op)), (4, .bool (bif (((((R2.Format i.op) == 1) || ((R2.Format i.op) == 8)) || ((R2.Format i.op) == 9)) || ((R2.Format i.op) == 10)) then (i.d == 0) else (R2.reg i.d))), (5, .bool (bif ((R2.Format i.op) == 12) then ((decide (i.s ≥ 0)) && (decide (i.s ≤ 4))) else (bif ((R2.Format i.op) == 11) then ((decide (i.s ≥ 0)) && (decide (i.s ≤ 3))) else (bif ((((R2.Format i.op) != 3) && ((R2.Format i.op) != 6)) && ((R2.Format i.op) != 7)) then (i.s == 0) else (R2.reg i.s))))), (6, .bool (bif (((R2.Format i.op) == 7) && (i.ix != (-1))) then (((R2.reg i.ix) && (decide (i.sc ≥ 0))) && (decide (i.sc ≤ 3))) else ((i.ix == (-1)) && (i.sc == 0)))), (7, .bool (i.imm == 0)), (118, .bool ((((R2.Format i.op) == 4) || ((R2.Format i.op) == 6)) || ((R2.Format i.op) == 8)))] (fun _ => True) [(g1, [.int .i64 i.op, .int .i64 i.d, .int .i64 i.s, .int .i64 i.ix, .int .i64 i.sc, .int .u32 i.imm, .int .i64 i.sz])] ?_ ?_
    · generalize hc39 : (((R2.Format i.op) == 4) || ((R2.Format i.op) == 6)) = b40
      cases b40
      · skip
        refine E.G.op (.int .i64 (R2.Format i.op)) (fun w => by kernel_rfl) (by kernel_rfl) ?_
        refine E.G.op (.bool ((R2.Format i.op) == 8)) (fun w => by kernel_rfl) (by kernel_rfl) ?_
        refine E.G.op (.bool ((R2.Format i.op) == 8)) (fun w => by kernel_rfl) (by kernel_rfl) ?_
        exact E.G.end_pst ⟨by kernel_rfl, by kernel_rfl⟩ (List.Sublist.refl _) (fun _ h => h)
      · skip
        refine E.G.skip (by kernel_rfl) (by kernel_rfl) ?_
        refine E.G.skip (by kernel_rfl) (by kernel_rfl) ?_
        refine E.G.op (.bool true) (fun w => by kernel_rfl) (by kernel_rfl) ?_
        exact E.G.end_pst ⟨by kernel_rfl, by kernel_rfl⟩ (List.Sublist.refl _) (fun _ h => h)
    refine E.To.code ?_
    refine E.C.thencut [(1, .pointer (some ⟨g1, 0, none⟩)), (2, .bool false), (3, .int .i64 (R2.Format i.op)), (4, .bool (bif (((((R2.Format i.op) == 1) || ((R2.Format i.op) == 8)) || ((R2.Format i.op) == 9)) || ((R2.Format i.op) == 10)) then (i.d == 0) else (R2.reg i.d))), (5, .bool (bif ((R2.Format i.op) == 12) then ((decide (i.s ≥ 0)) && (decide (i.s ≤ 4))) else (bif ((R2.Format i.op) == 11) then ((decide (i.s ≥ 0)) && (decide (i.s ≤ 3))) else (bif ((((R2.Format i.op) != 3) && ((R2.Format i.op) != 6)) && ((R2.Format i.op) != 7)) then (i.s == 0) else (R2.reg i.s))))), (6, .bool (bif (((R2.Format i.op) == 7) && (i.ix != (-1))) then (((R2.reg i.ix) && (decide (i.sc ≥ 0))) && (decide (i.sc ≤ 3))) else ((i.ix == (-1)) && (i.sc == 0)))), (7, .bool (bif ((((R2.Format i.op) == 4) || ((R2.Format i.op) == 6)) || ((R2.Format i.op) == 8)) then (R2.signed i.imm) else (i.imm == 0)))] (fun _ => True) [(g1, [.int .i64 i.op, .int .i64 i.d, .int .i64 i.s, .int .i64 i.ix, .int .i64 i.sc, .int .u32 i.imm, .int .i64 i.sz])] ?_ ?_
    · skip
      generalize hc41 : ((((R2.Format i.op) == 4) || ((R2.Format i.op) == 6)) || ((R2.Format i.op) == 8)) = b42
      cases b42
      · skip
        refine E.C.condF (by kernel_rfl) (by kernel_rfl) ?_
        exact E.C.skip (E.To.pst ⟨by kernel_rfl, by kernel_rfl⟩ (List.Sublist.refl _) (fun _ h => h))
      · skip
        refine E.C.condT (by kernel_rfl) (by kernel_rfl) ?_
        refine E.C.region ?_
        refine E.G.op (.pointer (some ⟨g1, 5, none⟩)) (fun w => by kernel_rfl) (by kernel_rfl) ?_
        refine E.G.val (.int .u32 i.imm) (by kernel_rfl) (fun w h => E.run_load h 0 rfl rfl (by kernel_rfl)) ?_
        refine E.G.call (.bool (R2.signed i.imm)) (fun w h => R2_signed _ w) (fun w _ => by kernel_rfl) (by kernel_rfl) ?_
        refine E.G.op (.bool (R2.signed i.imm)) (fun w => by kernel_rfl) (by kernel_rfl) ?_
        exact E.To.pst ⟨by kernel_rfl, by kernel_rfl⟩ (List.Sublist.refl _) (fun _ h => h)
    refine E.C.seq ?_
    refine E.C.seq ?_
    refine E.C.region ?_
    refine E.G.op (.int .i64 (R2.Format i.op)) (fun w => by kernel_rfl) (by kernel_rfl) ?_
    refine E.G.op (.bool ((R2.Format i.op) == 5)) (fun w => by kernel_rfl) (by kernel_rfl) ?_
    refine E.G.op (.bool ((R2.Format i.op) == 5)) (fun w => by kernel_rfl) (by kernel_rfl) ?_
    refine E.G.cut 3 [(1, .pointer (some ⟨g1, 0, none⟩)), (2, .bool false), (3, .int .i64 (R2.Format i.op)), (4, .bool (bif (((((R2.Format i.op) == 1) || ((R2.Format i.op) == 8)) || ((R2.Format i.op) == 9)) || ((R2.Format i.op) == 10)) then (i.d == 0) else (R2.reg i.d))), (5, .bool (bif ((R2.Format i.op) == 12) then ((decide (i.s ≥ 0)) && (decide (i.s ≤ 4))) else (bif ((R2.Format i.op) == 11) then ((decide (i.s ≥ 0)) && (decide (i.s ≤ 3))) else (bif ((((R2.Format i.op) != 3) && ((R2.Format i.op) != 6)) && ((R2.Format i.op) != 7)) then (i.s == 0) else (R2.reg i.s))))), (6, .bool (bif (((R2.Format i.op) == 7) && (i.ix != (-1))) then (((R2.reg i.ix) && (decide (i.sc ≥ 0))) && (decide (i.sc ≤ 3))) else ((i.ix == (-1)) && (i.sc == 0)))), (7, .bool (bif ((((R2.Format i.op) == 4) || ((R2.Format i.op) == 6)) || ((R2.Format i.op) == 8)) then (R2.signed i.imm) else (i.imm == 0))), (127, .bool (((R2.Format i.op) == 5) || ((R2.Format i.op) == 7)))] (fun _ => True) [(g1, [.int .i64 i.op, .int .i64 i.d, .int .i64 i.s, .int .i64 i.ix, .int .i64 i.sc, .int .u32 i.imm, .int .i64 i.sz])] ?_ ?_
    · generalize hc43 : ((R2.Format i.op) == 5) = b44
      cases b44
      · skip
        refine E.G.op (.int .i64 (R2.Format i.op)) (fun w => by kernel_rfl) (by kernel_rfl) ?_
        refine E.G.op (.bool ((R2.Format i.op) == 7)) (fun w => by kernel_rfl) (by kernel_rfl) ?_
        refine E.G.op (.bool ((R2.Format i.op) == 7)) (fun w => by kernel_rfl) (by kernel_rfl) ?_
        exact E.G.end_pst ⟨by kernel_rfl, by kernel_rfl⟩ (List.Sublist.refl _) (fun _ h => h)
      · skip
        refine E.G.skip (by kernel_rfl) (by kernel_rfl) ?_
        refine E.G.skip (by kernel_rfl) (by kernel_rfl) ?_
        refine E.G.op (.bool true) (fun w => by kernel_rfl) (by kernel_rfl) ?_
        exact E.G.end_pst ⟨by kernel_rfl, by kernel_rfl⟩ (List.Sublist.refl _) (fun _ h => h)
    refine E.G.op (.bool (((R2.Format i.op) == 5) || ((R2.Format i.op) == 7))) (fun w => by kernel_rfl) (by kernel_rfl) ?_
    refine E.G.cut 3 [(1, .pointer (some ⟨g1, 0, none⟩)), (2, .bool false), (3, .int .i64 (R2.Format i.op)), (4, .bool (bif (((((R2.Format i.op) == 1) || ((R2.Format i.op) == 8)) || ((R2.Format i.op) == 9)) || ((R2.Format i.op) == 10)) then (i.d == 0) else (R2.reg i.d))), (5, .bool (bif ((R2.Format i.op) == 12) then ((decide (i.s ≥ 0)) && (decide (i.s ≤ 4))) else (bif ((R2.Format i.op) == 11) then ((decide (i.s ≥ 0)) && (decide (i.s ≤ 3))) else (bif ((((R2.Format i.op) != 3) && ((R2.Format i.op) != 6)) && ((R2.Format i.op) != 7)) then (i.s == 0) else (R2.reg i.s))))), (6, .bool (bif (((R2.Format i.op) == 7) && (i.ix != (-1))) then (((R2.reg i.ix) && (decide (i.sc ≥ 0))) && (decide (i.sc ≤ 3))) else ((i.ix == (-1)) && (i.sc == 0)))), (7, .bool (bif ((((R2.Format i.op) == 4) || ((R2.Format i.op) == 6)) || ((R2.Format i.op) == 8)) then (R2.signed i.imm) else (i.imm == 0))), (131, .bool ((((R2.Format i.op) == 5) || ((R2.Format i.op) == 7)) || ((R2.Format i.op) == 9)))] (fun _ => True) [(g1, [.int .i64 i.op, .int .i64 i.d, .int .i64 i.s, .int .i64 i.ix, .int .i64 i.sc, .int .u32 i.imm, .int .i64 i.sz])] ?_ ?_
    · generalize hc45 : (((R2.Format i.op) == 5) || ((R2.Format i.op) == 7)) = b46
      cases b46
      · skip
        refine E.G.op (.int .i64 (R2.Format i.op)) (fun w => by kernel_rfl) (by kernel_rfl) ?_
        refine E.G.op (.bool ((R2.Format i.op) == 9)) (fun w => by kernel_rfl) (by kernel_rfl) ?_
        refine E.G.op (.bool ((R2.Format i.op) == 9)) (fun w => by kernel_rfl) (by kernel_rfl) ?_
        exact E.G.end_pst ⟨by kernel_rfl, by kernel_rfl⟩ (List.Sublist.refl _) (fun _ h => h)
      · skip
        refine E.G.skip (by kernel_rfl) (by kernel_rfl) ?_
        refine E.G.skip (by kernel_rfl) (by kernel_rfl) ?_
        refine E.G.op (.bool true) (fun w => by kernel_rfl) (by kernel_rfl) ?_
        exact E.G.end_pst ⟨by kernel_rfl, by kernel_rfl⟩ (List.Sublist.refl _) (fun _ h => h)
    refine E.To.code ?_
    refine E.C.thencut [(1, .pointer (some ⟨g1, 0, none⟩)), (2, .bool false), (3, .int .i64 (R2.Format i.op)), (4, .bool (bif (((((R2.Format i.op) == 1) || ((R2.Format i.op) == 8)) || ((R2.Format i.op) == 9)) || ((R2.Format i.op) == 10)) then (i.d == 0) else (R2.reg i.d))), (5, .bool (bif ((R2.Format i.op) == 12) then ((decide (i.s ≥ 0)) && (decide (i.s ≤ 4))) else (bif ((R2.Format i.op) == 11) then ((decide (i.s ≥ 0)) && (decide (i.s ≤ 3))) else (bif ((((R2.Format i.op) != 3) && ((R2.Format i.op) != 6)) && ((R2.Format i.op) != 7)) then (i.s == 0) else (R2.reg i.s))))), (6, .bool (bif (((R2.Format i.op) == 7) && (i.ix != (-1))) then (((R2.reg i.ix) && (decide (i.sc ≥ 0))) && (decide (i.sc ≤ 3))) else ((i.ix == (-1)) && (i.sc == 0)))), (7, .bool (((((R2.Format i.op) == 5) || ((R2.Format i.op) == 7)) || ((R2.Format i.op) == 9)) || (bif ((((R2.Format i.op) == 4) || ((R2.Format i.op) == 6)) || ((R2.Format i.op) == 8)) then (R2.signed i.imm) else (i.imm == 0))))] (fun _ => True) [(g1, [.int .i64 i.op, .int .i64 i.d, .int .i64 i.s, .int .i64 i.ix, .int .i64 i.sc, .int .u32 i.imm, .int .i64 i.sz])] ?_ ?_
    · skip
      generalize hc47 : ((((R2.Format i.op) == 5) || ((R2.Format i.op) == 7)) || ((R2.Format i.op) == 9)) = b48
      cases b48
      · skip
        refine E.C.condF (by kernel_rfl) (by kernel_rfl) ?_
        exact E.C.skip (E.To.pst ⟨by kernel_rfl, by kernel_rfl⟩ (List.Sublist.refl _) (fun _ h => h))
      · skip
        refine E.C.condT (by kernel_rfl) (by kernel_rfl) ?_
        refine E.C.region ?_
        refine E.G.op (.bool true) (fun w => by kernel_rfl) (by kernel_rfl) ?_
        exact E.To.pst ⟨by kernel_rfl, by kernel_rfl⟩ (List.Sublist.refl _) (fun _ h => h)
    refine E.C.seq ?_
    refine E.C.seq ?_
    refine E.C.region ?_
    refine E.G.op (.int .i64 (R2.Format i.op)) (fun w => by kernel_rfl) (by kernel_rfl) ?_
    refine E.G.op (.bool ((R2.Format i.op) == 10)) (fun w => by kernel_rfl) (by kernel_rfl) ?_
    refine E.To.code ?_
    refine E.C.thencut [(2, .bool false), (4, .bool (bif (((((R2.Format i.op) == 1) || ((R2.Format i.op) == 8)) || ((R2.Format i.op) == 9)) || ((R2.Format i.op) == 10)) then (i.d == 0) else (R2.reg i.d))), (5, .bool (bif ((R2.Format i.op) == 12) then ((decide (i.s ≥ 0)) && (decide (i.s ≤ 4))) else (bif ((R2.Format i.op) == 11) then ((decide (i.s ≥ 0)) && (decide (i.s ≤ 3))) else (bif ((((R2.Format i.op) != 3) && ((R2.Format i.op) != 6)) && ((R2.Format i.op) != 7)) then (i.s == 0) else (R2.reg i.s))))), (6, .bool (bif (((R2.Format i.op) == 7) && (i.ix != (-1))) then (((R2.reg i.ix) && (decide (i.sc ≥ 0))) && (decide (i.sc ≤ 3))) else ((i.ix == (-1)) && (i.sc == 0)))), (7, .bool (bif ((R2.Format i.op) == 10) then (decide (i.imm < 256)) else (((((R2.Format i.op) == 5) || ((R2.Format i.op) == 7)) || ((R2.Format i.op) == 9)) || (bif ((((R2.Format i.op) == 4) || ((R2.Format i.op) == 6)) || ((R2.Format i.op) == 8)) then (R2.signed i.imm) else (i.imm == 0)))))] (fun _ => True) [(g1, [.int .i64 i.op, .int .i64 i.d, .int .i64 i.s, .int .i64 i.ix, .int .i64 i.sc, .int .u32 i.imm, .int .i64 i.sz])] ?_ ?_
    · skip
      generalize hc49 : ((R2.Format i.op) == 10) = b50
      cases b50
      · skip
        refine E.C.condF (by kernel_rfl) (by kernel_rfl) ?_
        exact E.C.skip (E.To.pst ⟨by kernel_rfl, by kernel_rfl⟩ (List.Sublist.refl _) (fun _ h => h))
      · skip
        refine E.C.condT (by kernel_rfl) (by kernel_rfl) ?_
        refine E.C.region ?_
        refine E.G.op (.pointer (some ⟨g1, 5, none⟩)) (fun w => by kernel_rfl) (by kernel_rfl) ?_
        refine E.G.val (.int .u32 i.imm) (by kernel_rfl) (fun w h => E.run_load h 0 rfl rfl (by kernel_rfl)) ?_
        refine E.G.op (.bool (decide (i.imm < 256))) (fun w => by kernel_rfl) (by kernel_rfl) ?_
        refine E.G.op (.bool (decide (i.imm < 256))) (fun w => by kernel_rfl) (by kernel_rfl) ?_
        exact E.To.pst ⟨by kernel_rfl, by kernel_rfl⟩ (List.Sublist.refl _) (fun _ h => h)
    refine E.C.seq ?_
    refine E.C.region ?_
    refine E.G.op (.bool (bif (((((R2.Format i.op) == 1) || ((R2.Format i.op) == 8)) || ((R2.Format i.op) == 9)) || ((R2.Format i.op) == 10)) then (i.d == 0) else (R2.reg i.d))) (fun w => by kernel_rfl) (by kernel_rfl) ?_
    refine E.G.op (.bool (bif (((((R2.Format i.op) == 1) || ((R2.Format i.op) == 8)) || ((R2.Format i.op) == 9)) || ((R2.Format i.op) == 10)) then (i.d == 0) else (R2.reg i.d))) (fun w => by kernel_rfl) (by kernel_rfl) ?_
    refine E.G.cut 2 [(2, .bool false), (6, .bool (bif (((R2.Format i.op) == 7) && (i.ix != (-1))) then (((R2.reg i.ix) && (decide (i.sc ≥ 0))) && (decide (i.sc ≤ 3))) else ((i.ix == (-1)) && (i.sc == 0)))), (7, .bool (bif ((R2.Format i.op) == 10) then (decide (i.imm < 256)) else (((((R2.Format i.op) == 5) || ((R2.Format i.op) == 7)) || ((R2.Format i.op) == 9)) || (bif ((((R2.Format i.op) == 4) || ((R2.Format i.op) == 6)) || ((R2.Format i.op) == 8)) then (R2.signed i.imm) else (i.imm == 0))))), (140, .bool ((bif (((((R2.Format i.op) == 1) || ((R2.Format i.op) == 8)) || ((R2.Format i.op) == 9)) || ((R2.Format i.op) == 10)) then (i.d == 0) else (R2.reg i.d)) && (bif ((R2.Format i.op) == 12) then ((decide (i.s ≥ 0)) && (decide (i.s ≤ 4))) else (bif ((R2.Format i.op) == 11) then ((decide (i.s ≥ 0)) && (decide (i.s ≤ 3))) else (bif ((((R2.Format i.op) != 3) && ((R2.Format i.op) != 6)) && ((R2.Format i.op) != 7)) then (i.s == 0) else (R2.reg i.s))))))] (fun _ => True) [(g1, [.int .i64 i.op, .int .i64 i.d, .int .i64 i.s, .int .i64 i.ix, .int .i64 i.sc, .int .u32 i.imm, .int .i64 i.sz])] ?_ ?_
    · generalize hc51 : (bif (((((R2.Format i.op) == 1) || ((R2.Format i.op) == 8)) || ((R2.Format i.op) == 9)) || ((R2.Format i.op) == 10)) then (i.d == 0) else (R2.reg i.d)) = b52
      cases b52
      · skip
        refine E.G.skip (by kernel_rfl) (by kernel_rfl) ?_
        refine E.G.op (.bool false) (fun w => by kernel_rfl) (by kernel_rfl) ?_
        exact E.G.end_pst ⟨by kernel_rfl, by kernel_rfl⟩ (List.Sublist.refl _) (fun _ h => h)
      · skip
        refine E.G.op (.bool (bif ((R2.Format i.op) == 12) then ((decide (i.s ≥ 0)) && (decide (i.s ≤ 4))) else (bif ((R2.Format i.op) == 11) then ((decide (i.s ≥ 0)) && (decide (i.s ≤ 3))) else (bif ((((R2.Format i.op) != 3) && ((R2.Format i.op) != 6)) && ((R2.Format i.op) != 7)) then (i.s == 0) else (R2.reg i.s))))) (fun w => by kernel_rfl) (by kernel_rfl) ?_
        refine E.G.op (.bool (bif ((R2.Format i.op) == 12) then ((decide (i.s ≥ 0)) && (decide (i.s ≤ 4))) else (bif ((R2.Format i.op) == 11) then ((decide (i.s ≥ 0)) && (decide (i.s ≤ 3))) else (bif ((((R2.Format i.op) != 3) && ((R2.Format i.op) != 6)) && ((R2.Format i.op) != 7)) then (i.s == 0) else (R2.reg i.s))))) (fun w => by kernel_rfl) (by kernel_rfl) ?_
        exact E.G.end_pst ⟨by kernel_rfl, by kernel_rfl⟩ (List.Sublist.refl _) (fun _ h => h)
    refine E.G.op (.bool ((bif (((((R2.Format i.op) == 1) || ((R2.Format i.op) == 8)) || ((R2.Format i.op) == 9)) || ((R2.Format i.op) == 10)) then (i.d == 0) else (R2.reg i.d)) && (bif ((R2.Format i.op) == 12) then ((decide (i.s ≥ 0)) && (decide (i.s ≤ 4))) else (bif ((R2.Format i.op) == 11) then ((decide (i.s ≥ 0)) && (decide (i.s ≤ 3))) else (bif ((((R2.Format i.op) != 3) && ((R2.Format i.op) != 6)) && ((R2.Format i.op) != 7)) then (i.s == 0) else (R2.reg i.s)))))) (fun w => by kernel_rfl) (by kernel_rfl) ?_
    refine E.G.cut 2 [(2, .bool false), (7, .bool (bif ((R2.Format i.op) == 10) then (decide (i.imm < 256)) else (((((R2.Format i.op) == 5) || ((R2.Format i.op) == 7)) || ((R2.Format i.op) == 9)) || (bif ((((R2.Format i.op) == 4) || ((R2.Format i.op) == 6)) || ((R2.Format i.op) == 8)) then (R2.signed i.imm) else (i.imm == 0))))), (143, .bool (((bif (((((R2.Format i.op) == 1) || ((R2.Format i.op) == 8)) || ((R2.Format i.op) == 9)) || ((R2.Format i.op) == 10)) then (i.d == 0) else (R2.reg i.d)) && (bif ((R2.Format i.op) == 12) then ((decide (i.s ≥ 0)) && (decide (i.s ≤ 4))) else (bif ((R2.Format i.op) == 11) then ((decide (i.s ≥ 0)) && (decide (i.s ≤ 3))) else (bif ((((R2.Format i.op) != 3) && ((R2.Format i.op) != 6)) && ((R2.Format i.op) != 7)) then (i.s == 0) else (R2.reg i.s))))) && (bif (((R2.Format i.op) == 7) && (i.ix != (-1))) then (((R2.reg i.ix) && (decide (i.sc ≥ 0))) && (decide (i.sc ≤ 3))) else ((i.ix == (-1)) && (i.sc == 0)))))] (fun _ => True) [(g1, [.int .i64 i.op, .int .i64 i.d, .int .i64 i.s, .int .i64 i.ix, .int .i64 i.sc, .int .u32 i.imm, .int .i64 i.sz])] ?_ ?_
    · generalize hc53 : ((bif (((((R2.Format i.op) == 1) || ((R2.Format i.op) == 8)) || ((R2.Format i.op) == 9)) || ((R2.Format i.op) == 10)) then (i.d == 0) else (R2.reg i.d)) && (bif ((R2.Format i.op) == 12) then ((decide (i.s ≥ 0)) && (decide (i.s ≤ 4))) else (bif ((R2.Format i.op) == 11) then ((decide (i.s ≥ 0)) && (decide (i.s ≤ 3))) else (bif ((((R2.Format i.op) != 3) && ((R2.Format i.op) != 6)) && ((R2.Format i.op) != 7)) then (i.s == 0) else (R2.reg i.s))))) = b54
      cases b54
      · skip
        refine E.G.skip (by kernel_rfl) (by kernel_rfl) ?_
        refine E.G.op (.bool false) (fun w => by kernel_rfl) (by kernel_rfl) ?_
        exact E.G.end_pst ⟨by kernel_rfl, by kernel_rfl⟩ (List.Sublist.refl _) (fun _ h => h)
      · skip
        refine E.G.op (.bool (bif (((R2.Format i.op) == 7) && (i.ix != (-1))) then (((R2.reg i.ix) && (decide (i.sc ≥ 0))) && (decide (i.sc ≤ 3))) else ((i.ix == (-1)) && (i.sc == 0)))) (fun w => by kernel_rfl) (by kernel_rfl) ?_
        refine E.G.op (.bool (bif (((R2.Format i.op) == 7) && (i.ix != (-1))) then (((R2.reg i.ix) && (decide (i.sc ≥ 0))) && (decide (i.sc ≤ 3))) else ((i.ix == (-1)) && (i.sc == 0)))) (fun w => by kernel_rfl) (by kernel_rfl) ?_
        exact E.G.end_pst ⟨by kernel_rfl, by kernel_rfl⟩ (List.Sublist.refl _) (fun _ h => h)
    refine E.G.op (.bool (((bif (((((R2.Format i.op) == 1) || ((R2.Format i.op) == 8)) || ((R2.Format i.op) == 9)) || ((R2.Format i.op) == 10)) then (i.d == 0) else (R2.reg i.d)) && (bif ((R2.Format i.op) == 12) then ((decide (i.s ≥ 0)) && (decide (i.s ≤ 4))) else (bif ((R2.Format i.op) == 11) then ((decide (i.s ≥ 0)) && (decide (i.s ≤ 3))) else (bif ((((R2.Format i.op) != 3) && ((R2.Format i.op) != 6)) && ((R2.Format i.op) != 7)) then (i.s == 0) else (R2.reg i.s))))) && (bif (((R2.Format i.op) == 7) && (i.ix != (-1))) then (((R2.reg i.ix) && (decide (i.sc ≥ 0))) && (decide (i.sc ≤ 3))) else ((i.ix == (-1)) && (i.sc == 0))))) (fun w => by kernel_rfl) (by kernel_rfl) ?_
    refine E.G.cut 2 [(2, .bool false), (146, .bool ((((bif (((((R2.Format i.op) == 1) || ((R2.Format i.op) == 8)) || ((R2.Format i.op) == 9)) || ((R2.Format i.op) == 10)) then (i.d == 0) else (R2.reg i.d)) && (bif ((R2.Format i.op) == 12) then ((decide (i.s ≥ 0)) && (decide (i.s ≤ 4))) else (bif ((R2.Format i.op) == 11) then ((decide (i.s ≥ 0)) && (decide (i.s ≤ 3))) else (bif ((((R2.Format i.op) != 3) && ((R2.Format i.op) != 6)) && ((R2.Format i.op) != 7)) then (i.s == 0) else (R2.reg i.s))))) && (bif (((R2.Format i.op) == 7) && (i.ix != (-1))) then (((R2.reg i.ix) && (decide (i.sc ≥ 0))) && (decide (i.sc ≤ 3))) else ((i.ix == (-1)) && (i.sc == 0)))) && (bif ((R2.Format i.op) == 10) then (decide (i.imm < 256)) else (((((R2.Format i.op) == 5) || ((R2.Format i.op) == 7)) || ((R2.Format i.op) == 9)) || (bif ((((R2.Format i.op) == 4) || ((R2.Format i.op) == 6)) || ((R2.Format i.op) == 8)) then (R2.signed i.imm) else (i.imm == 0))))))] (fun _ => True) [(g1, [.int .i64 i.op, .int .i64 i.d, .int .i64 i.s, .int .i64 i.ix, .int .i64 i.sc, .int .u32 i.imm, .int .i64 i.sz])] ?_ ?_
    · generalize hc55 : (((bif (((((R2.Format i.op) == 1) || ((R2.Format i.op) == 8)) || ((R2.Format i.op) == 9)) || ((R2.Format i.op) == 10)) then (i.d == 0) else (R2.reg i.d)) && (bif ((R2.Format i.op) == 12) then ((decide (i.s ≥ 0)) && (decide (i.s ≤ 4))) else (bif ((R2.Format i.op) == 11) then ((decide (i.s ≥ 0)) && (decide (i.s ≤ 3))) else (bif ((((R2.Format i.op) != 3) && ((R2.Format i.op) != 6)) && ((R2.Format i.op) != 7)) then (i.s == 0) else (R2.reg i.s))))) && (bif (((R2.Format i.op) == 7) && (i.ix != (-1))) then (((R2.reg i.ix) && (decide (i.sc ≥ 0))) && (decide (i.sc ≤ 3))) else ((i.ix == (-1)) && (i.sc == 0)))) = b56
      cases b56
      · skip
        refine E.G.skip (by kernel_rfl) (by kernel_rfl) ?_
        refine E.G.op (.bool false) (fun w => by kernel_rfl) (by kernel_rfl) ?_
        exact E.G.end_pst ⟨by kernel_rfl, by kernel_rfl⟩ (List.Sublist.refl _) (fun _ h => h)
      · skip
        refine E.G.op (.bool (bif ((R2.Format i.op) == 10) then (decide (i.imm < 256)) else (((((R2.Format i.op) == 5) || ((R2.Format i.op) == 7)) || ((R2.Format i.op) == 9)) || (bif ((((R2.Format i.op) == 4) || ((R2.Format i.op) == 6)) || ((R2.Format i.op) == 8)) then (R2.signed i.imm) else (i.imm == 0))))) (fun w => by kernel_rfl) (by kernel_rfl) ?_
        refine E.G.op (.bool (bif ((R2.Format i.op) == 10) then (decide (i.imm < 256)) else (((((R2.Format i.op) == 5) || ((R2.Format i.op) == 7)) || ((R2.Format i.op) == 9)) || (bif ((((R2.Format i.op) == 4) || ((R2.Format i.op) == 6)) || ((R2.Format i.op) == 8)) then (R2.signed i.imm) else (i.imm == 0))))) (fun w => by kernel_rfl) (by kernel_rfl) ?_
        exact E.G.end_pst ⟨by kernel_rfl, by kernel_rfl⟩ (List.Sublist.refl _) (fun _ h => h)
    refine E.G.op (.bool ((((bif (((((R2.Format i.op) == 1) || ((R2.Format i.op) == 8)) || ((R2.Format i.op) == 9)) || ((R2.Format i.op) == 10)) then (i.d == 0) else (R2.reg i.d)) && (bif ((R2.Format i.op) == 12) then ((decide (i.s ≥ 0)) && (decide (i.s ≤ 4))) else (bif ((R2.Format i.op) == 11) then ((decide (i.s ≥ 0)) && (decide (i.s ≤ 3))) else (bif ((((R2.Format i.op) != 3) && ((R2.Format i.op) != 6)) && ((R2.Format i.op) != 7)) then (i.s == 0) else (R2.reg i.s))))) && (bif (((R2.Format i.op) == 7) && (i.ix != (-1))) then (((R2.reg i.ix) && (decide (i.sc ≥ 0))) && (decide (i.sc ≤ 3))) else ((i.ix == (-1)) && (i.sc == 0)))) && (bif ((R2.Format i.op) == 10) then (decide (i.imm < 256)) else (((((R2.Format i.op) == 5) || ((R2.Format i.op) == 7)) || ((R2.Format i.op) == 9)) || (bif ((((R2.Format i.op) == 4) || ((R2.Format i.op) == 6)) || ((R2.Format i.op) == 8)) then (R2.signed i.imm) else (i.imm == 0)))))) (fun w => by kernel_rfl) (by kernel_rfl) ?_
    refine E.To.code ?_
    refine E.C.ret (E.To.body (fn := Try.f20) [.bool ((((bif (((((R2.Format i.op) == 1) || ((R2.Format i.op) == 8)) || ((R2.Format i.op) == 9)) || ((R2.Format i.op) == 10)) then (i.d == 0) else (R2.reg i.d)) && (bif ((R2.Format i.op) == 12) then ((decide (i.s ≥ 0)) && (decide (i.s ≤ 4))) else (bif ((R2.Format i.op) == 11) then ((decide (i.s ≥ 0)) && (decide (i.s ≤ 3))) else (bif ((((R2.Format i.op) != 3) && ((R2.Format i.op) != 6)) && ((R2.Format i.op) != 7)) then (i.s == 0) else (R2.reg i.s))))) && (bif (((R2.Format i.op) == 7) && (i.ix != (-1))) then (((R2.reg i.ix) && (decide (i.sc ≥ 0))) && (decide (i.sc ≤ 3))) else ((i.ix == (-1)) && (i.sc == 0)))) && (bif ((R2.Format i.op) == 10) then (decide (i.imm < 256)) else (((((R2.Format i.op) == 5) || ((R2.Format i.op) == 7)) || ((R2.Format i.op) == 9)) || (bif ((((R2.Format i.op) == 4) || ((R2.Format i.op) == 6)) || ((R2.Format i.op) == 8)) then (R2.signed i.imm) else (i.imm == 0)))))] ?_ ?_)
    · exact ⟨⟨by kernel_rfl, by kernel_rfl⟩, trivial⟩
    · intro w h
      exact ⟨by show Ending.returned (.bool ((((bif (((((R2.Format i.op) == 1) || ((R2.Format i.op) == 8)) || ((R2.Format i.op) == 9)) || ((R2.Format i.op) == 10)) then (i.d == 0) else (R2.reg i.d)) && (bif ((R2.Format i.op) == 12) then ((decide (i.s ≥ 0)) && (decide (i.s ≤ 4))) else (bif ((R2.Format i.op) == 11) then ((decide (i.s ≥ 0)) && (decide (i.s ≤ 3))) else (bif ((((R2.Format i.op) != 3) && ((R2.Format i.op) != 6)) && ((R2.Format i.op) != 7)) then (i.s == 0) else (R2.reg i.s))))) && (bif (((R2.Format i.op) == 7) && (i.ix != (-1))) then (((R2.reg i.ix) && (decide (i.sc ≥ 0))) && (decide (i.sc ≤ 3))) else ((i.ix == (-1)) && (i.sc == 0)))) && (bif ((R2.Format i.op) == 10) then (decide (i.imm < 256)) else (((((R2.Format i.op) == 5) || ((R2.Format i.op) == 7)) || ((R2.Format i.op) == 9)) || (bif ((((R2.Format i.op) == 4) || ((R2.Format i.op) == 6)) || ((R2.Format i.op) == 8)) then (R2.signed i.imm) else (i.imm == 0)))))) = _; unfold R2.Valid; rw [hc4, cond_false], h.ch.bel (fun _ h => h.elim)⟩

def R2.Target (i : K.Ins) (x : Int) : Int × Bool := (bif ((!(R2.Valid i)) || (((R2.Format i.op) != 8) && ((R2.Format i.op) != 9))) then (0, false) else ((IntKind.wrap .u32 ((IntKind.wrap .u32 (x + (IntKind.wrap .u32 i.sz))) + i.imm)), true))
theorem R2_Target (i : K.Ins) (x : Int) (w : World) : Calls Try.prog 22 #[.agg #[.int .i64 i.op, .int .i64 i.d, .int .i64 i.s, .int .i64 i.ix, .int .i64 i.sc, .int .u32 i.imm, .int .i64 i.sz], .int .u32 x] w fun e w' => e = .returned (.agg #[.int .u32 (((R2.Target i x)).1), .bool (((R2.Target i x)).2)]) ∧ Bel w w' := by
  refine E.enter (n := 30) (S := fun _ => False) Try.func22 rfl rfl (by kernel_rfl) (E.Hp.start w) ?_
  refine E.C.seq ?_
  refine E.C.region ?_
  refine E.G.new (fun g => .pointer (some ⟨g, 0, none⟩)) [.int .i64 i.op, .int .i64 i.d, .int .i64 i.s, .int .i64 i.ix, .int .i64 i.sc, .int .u32 i.imm, .int .i64 i.sz] 27 (fun w => by kernel_rfl) (by kernel_rfl) (fun g1 => ?_)
  refine E.G.new (fun g => .pointer (some ⟨g, 0, none⟩)) [.int .u32 0, .bool false] 57 (fun w => by kernel_rfl) (by kernel_rfl) (fun g2 => ?_)
  refine E.To.code ?_
  refine E.C.seq ?_
  refine E.C.region ?_
  refine E.G.op (.pointer (some ⟨g1, 0, none⟩)) (fun w => by kernel_rfl) (by kernel_rfl) ?_
  refine E.G.val (.int .i64 i.op) (by kernel_rfl) (fun w h => E.run_load h 1 rfl rfl (by kernel_rfl)) ?_
  refine E.G.call (.int .i64 (R2.Format i.op)) (fun w h => R2_Format _ w) (fun w _ => by kernel_rfl) (by kernel_rfl) ?_
  refine E.G.op (.int .i64 (R2.Format i.op)) (fun w => by kernel_rfl) (by kernel_rfl) ?_
  refine E.To.code ?_
  refine E.C.seq ?_
  refine E.C.seq ?_
  refine E.C.region ?_
  refine E.G.val (.agg #[.int .i64 i.op, .int .i64 i.d, .int .i64 i.s, .int .i64 i.ix, .int .i64 i.sc, .int .u32 i.imm, .int .i64 i.sz]) (by kernel_rfl) (fun w h => E.run_load h 1 rfl rfl (by kernel_rfl)) ?_
  refine E.G.call (.bool (R2.Valid i)) (fun w h => R2_Valid i w) (fun w _ => by kernel_rfl) (by kernel_rfl) ?_
  refine E.G.op (.bool (!(R2.Valid i))) (fun w => by kernel_rfl) (by kernel_rfl) ?_
  refine E.G.op (.bool (!(R2.Valid i))) (fun w => by kernel_rfl) (by kernel_rfl) ?_
  refine E.G.cut 7 [(1, .int .u32 x), (2, .pointer (some ⟨g1, 0, none⟩)), (4, .pointer (some ⟨g2, 0, none⟩)), (19, .bool ((!(R2.Valid i)) || (((R2.Format i.op) != 8) && ((R2.Format i.op) != 9))))] (fun _ => True) [(g2, [.int .u32 0, .bool false]), (g1, [.int .i64 i.op, .int .i64 i.d, .int .i64 i.s, .int .i64 i.ix, .int .i64 i.sc, .int .u32 i.imm, .int .i64 i.sz])] ?_ ?_
  · generalize hc3 : (!(R2.Valid i)) = b4
    cases b4
    · skip
      refine E.G.op (.int .i64 (R2.Format i.op)) (fun w => by kernel_rfl) (by kernel_rfl) ?_
      refine E.G.op (.bool ((R2.Format i.op) != 8)) (fun w => by kernel_rfl) (by kernel_rfl) ?_
      refine E.G.op (.bool ((R2.Format i.op) != 8)) (fun w => by kernel_rfl) (by kernel_rfl) ?_
      refine E.G.cut 3 [(1, .int .u32 x), (2, .pointer (some ⟨g1, 0, none⟩)), (4, .pointer (some ⟨g2, 0, none⟩)), (12, .bool false), (18, .bool (((R2.Format i.op) != 8) && ((R2.Format i.op) != 9)))] (fun _ => True) [(g2, [.int .u32 0, .bool false]), (g1, [.int .i64 i.op, .int .i64 i.d, .int .i64 i.s, .int .i64 i.ix, .int .i64 i.sc, .int .u32 i.imm, .int .i64 i.sz])] ?_ ?_
      · generalize hc5 : ((R2.Format i.op) != 8) = b6
        cases b6
        · skip
          refine E.G.skip (by kernel_rfl) (by kernel_rfl) ?_
          refine E.G.skip (by kernel_rfl) (by kernel_rfl) ?_
          refine E.G.op (.bool false) (fun w => by kernel_rfl) (by kernel_rfl) ?_
          exact E.G.end_pst ⟨by kernel_rfl, by kernel_rfl⟩ (List.Sublist.refl _) (fun _ h => h)
        · skip
          refine E.G.op (.int .i64 (R2.Format i.op)) (fun w => by kernel_rfl) (by kernel_rfl) ?_
          refine E.G.op (.bool ((R2.Format i.op) != 9)) (fun w => by kernel_rfl) (by kernel_rfl) ?_
          refine E.G.op (.bool ((R2.Format i.op) != 9)) (fun w => by kernel_rfl) (by kernel_rfl) ?_
          exact E.G.end_pst ⟨by kernel_rfl, by kernel_rfl⟩ (List.Sublist.refl _) (fun _ h => h)
      refine E.G.op (.bool (((R2.Format i.op) != 8) && ((R2.Format i.op) != 9))) (fun w => by kernel_rfl) (by kernel_rfl) ?_
      exact E.G.end_pst ⟨by kernel_rfl, by kernel_rfl⟩ (List.Sublist.refl _) (fun _ h => h)
    · skip
      refine E.G.skip (by kernel_rfl) (by kernel_rfl) ?_
      refine E.G.skip (by kernel_rfl) (by kernel_rfl) ?_
      refine E.G.skip (by kernel_rfl) (by kernel_rfl) ?_
      refine E.G.skip (by kernel_rfl) (by kernel_rfl) ?_
      refine E.G.skip (by kernel_rfl) (by kernel_rfl) ?_
      refine E.G.skip (by kernel_rfl) (by kernel_rfl) ?_
      refine E.G.op (.bool true) (fun w => by kernel_rfl) (by kernel_rfl) ?_
      exact E.G.end_pst ⟨by kernel_rfl, by kernel_rfl⟩ (List.Sublist.refl _) (fun _ h => h)
  refine E.To.code ?_
  refine E.C.cond ((!(R2.Valid i)) || (((R2.Format i.op) != 8) && ((R2.Format i.op) != 9))) (by kernel_rfl) (by kernel_rfl) (fun hc7 => ?_) (fun hc7 => ?_)
  · skip
    refine E.C.seq ?_
    refine E.C.region ?_
    refine E.G.val (.agg #[.int .u32 0, .bool false]) (by kernel_rfl) (fun w h => E.run_build #[.int .u32 0, .bool false] (by kernel_rfl) w) ?_
    refine E.G.store 0 [.int .u32 0, .bool false] rfl rfl (by kernel_rfl) (by kernel_rfl) ?_
    refine E.To.code ?_
    refine E.C.ret (E.P.rt (E.To.body (fn := Try.f22) [.agg #[.int .u32 0, .bool false]] ?_ ?_))
    · exact ⟨⟨by kernel_rfl, _, _, 0, _, rfl, rfl, by kernel_rfl⟩, trivial⟩
    · intro w h
      exact ⟨by show Ending.returned (.agg #[.int .u32 0, .bool false]) = _; unfold R2.Target; rw [hc7, cond_true], h.ch.bel (fun _ h => h.elim)⟩
  · skip
    refine E.C.skip (E.To.code ?_)
    refine E.C.seq ?_
    refine E.C.region ?_
    refine E.G.op (.int .u32 x) (fun w => by kernel_rfl) (by kernel_rfl) ?_
    refine E.G.op (.pointer (some ⟨g1, 6, none⟩)) (fun w => by kernel_rfl) (by kernel_rfl) ?_
    refine E.G.val (.int .i64 i.sz) (by kernel_rfl) (fun w h => E.run_load h 1 rfl rfl (by kernel_rfl)) ?_
    refine E.G.op (.int .u32 (IntKind.wrap .u32 i.sz)) (fun w => by kernel_rfl) (by kernel_rfl) ?_
    refine E.G.op (.int .u32 (IntKind.wrap .u32 (x + (IntKind.wrap .u32 i.sz)))) (fun w => by kernel_rfl) (by kernel_rfl) ?_
    refine E.G.op (.pointer (some ⟨g1, 5, none⟩)) (fun w => by kernel_rfl) (by kernel_rfl) ?_
    refine E.G.val (.int .u32 i.imm) (by kernel_rfl) (fun w h => E.run_load h 1 rfl rfl (by kernel_rfl)) ?_
    refine E.G.op (.int .u32 (IntKind.wrap .u32 ((IntKind.wrap .u32 (x + (IntKind.wrap .u32 i.sz))) + i.imm))) (fun w => by kernel_rfl) (by kernel_rfl) ?_
    refine E.G.val (.agg #[.int .u32 (IntKind.wrap .u32 ((IntKind.wrap .u32 (x + (IntKind.wrap .u32 i.sz))) + i.imm)), .bool true]) (by kernel_rfl) (fun w h => E.run_build #[.int .u32 (IntKind.wrap .u32 ((IntKind.wrap .u32 (x + (IntKind.wrap .u32 i.sz))) + i.imm)), .bool true] (by kernel_rfl) w) ?_
    refine E.G.store 0 [.int .u32 (IntKind.wrap .u32 ((IntKind.wrap .u32 (x + (IntKind.wrap .u32 i.sz))) + i.imm)), .bool true] rfl rfl (by kernel_rfl) (by kernel_rfl) ?_
    refine E.To.code ?_
    refine E.C.weak [(4, .pointer (some ⟨g2, 0, none⟩))] [(g2, [.int .u32 (IntKind.wrap .u32 ((IntKind.wrap .u32 (x + (IntKind.wrap .u32 i.sz))) + i.imm)), .bool true])] ⟨by kernel_rfl, by kernel_rfl⟩ (List.Sublist.cons_cons _ (List.nil_sublist _)) ?_
    refine E.C.ret (E.To.body (fn := Try.f22) [.agg #[.int .u32 (IntKind.wrap .u32 ((IntKind.wrap .u32 (x + (IntKind.wrap .u32 i.sz))) + i.imm)), .bool true]] ?_ ?_)
    · exact ⟨⟨by kernel_rfl, _, _, 0, _, rfl, rfl, by kernel_rfl⟩, trivial⟩
    · intro w h
      exact ⟨by show Ending.returned (.agg #[.int .u32 (IntKind.wrap .u32 ((IntKind.wrap .u32 (x + (IntKind.wrap .u32 i.sz))) + i.imm)), .bool true]) = _; unfold R2.Target; rw [hc7, cond_false], h.ch.bel (fun _ h => h.elim)⟩

theorem R2.Size_cases (x : Int) : (R2.Format (IntKind.wrap .i64 x) = 0 ∧ R2.Size x = 0) ∨ (R2.Format (IntKind.wrap .i64 x) = 1 ∧ R2.Size x = 1) ∨ (R2.Format (IntKind.wrap .i64 x) = 2 ∧ R2.Size x = 2) ∨ (R2.Format (IntKind.wrap .i64 x) = 3 ∧ R2.Size x = 2) ∨ (R2.Format (IntKind.wrap .i64 x) = 4 ∧ R2.Size x = 3) ∨ (R2.Format (IntKind.wrap .i64 x) = 5 ∧ R2.Size x = 6) ∨ (R2.Format (IntKind.wrap .i64 x) = 6 ∧ R2.Size x = 3) ∨ (R2.Format (IntKind.wrap .i64 x) = 7 ∧ R2.Size x = 7) ∨ (R2.Format (IntKind.wrap .i64 x) = 8 ∧ R2.Size x = 2) ∨ (R2.Format (IntKind.wrap .i64 x) = 9 ∧ R2.Size x = 5) ∨ (R2.Format (IntKind.wrap .i64 x) = 10 ∧ R2.Size x = 2) ∨ (R2.Format (IntKind.wrap .i64 x) = 11 ∧ R2.Size x = 2) ∨ (R2.Format (IntKind.wrap .i64 x) = 12 ∧ R2.Size x = 2) := by
  have hb := R2.Format_bd (IntKind.wrap .i64 x)
  unfold R2.Size
  generalize R2.Format (IntKind.wrap .i64 x) = f at *
  rcases (by omega : f = 0 ∨ f = 1 ∨ f = 2 ∨ f = 3 ∨ f = 4 ∨ f = 5 ∨ f = 6 ∨ f = 7 ∨ f = 8 ∨ f = 9 ∨ f = 10 ∨ f = 11 ∨ f = 12) with rfl | rfl | rfl | rfl | rfl | rfl | rfl | rfl | rfl | rfl | rfl | rfl | rfl <;> decide

def R2.read (s : ByteArray) : K.Ins := (bif (((R2.Format (IntKind.wrap .i64 (W.byt s.data.toList 0))) == 4) || ((R2.Format (IntKind.wrap .i64 (W.byt s.data.toList 0))) == 6)) then ⟨(IntKind.wrap .i64 (W.byt s.data.toList 0)), (bif ((((R2.Format (IntKind.wrap .i64 (W.byt s.data.toList 0))) == 2) || ((R2.Format (IntKind.wrap .i64 (W.byt s.data.toList 0))) == 4)) || ((R2.Format (IntKind.wrap .i64 (W.byt s.data.toList 0))) == 5)) then (IntKind.wrap .i64 (W.byt s.data.toList 1)) else (bif (decide (((s.size : Nat) : Int) > 1)) then (IntKind.wrap .i64 (Int.tdiv (IntKind.wrap .i64 (W.byt s.data.toList 1)) 16)) else 0)), (bif ((((R2.Format (IntKind.wrap .i64 (W.byt s.data.toList 0))) == 2) || ((R2.Format (IntKind.wrap .i64 (W.byt s.data.toList 0))) == 4)) || ((R2.Format (IntKind.wrap .i64 (W.byt s.data.toList 0))) == 5)) then 0 else (bif (decide (((s.size : Nat) : Int) > 1)) then (Int.tmod (IntKind.wrap .i64 (W.byt s.data.toList 1)) 16) else 0)), -1, 0, (R2.extend (W.byt s.data.toList 2)), ((s.size : Nat) : Int)⟩ else (bif ((R2.Format (IntKind.wrap .i64 (W.byt s.data.toList 0))) == 5) then ⟨(IntKind.wrap .i64 (W.byt s.data.toList 0)), (bif ((((R2.Format (IntKind.wrap .i64 (W.byt s.data.toList 0))) == 2) || ((R2.Format (IntKind.wrap .i64 (W.byt s.data.toList 0))) == 4)) || ((R2.Format (IntKind.wrap .i64 (W.byt s.data.toList 0))) == 5)) then (IntKind.wrap .i64 (W.byt s.data.toList 1)) else (bif (decide (((s.size : Nat) : Int) > 1)) then (IntKind.wrap .i64 (Int.tdiv (IntKind.wrap .i64 (W.byt s.data.toList 1)) 16)) else 0)), (bif ((((R2.Format (IntKind.wrap .i64 (W.byt s.data.toList 0))) == 2) || ((R2.Format (IntKind.wrap .i64 (W.byt s.data.toList 0))) == 4)) || ((R2.Format (IntKind.wrap .i64 (W.byt s.data.toList 0))) == 5)) then 0 else (bif (decide (((s.size : Nat) : Int) > 1)) then (Int.tmod (IntKind.wrap .i64 (W.byt s.data.toList 1)) 16) else 0)), -1, 0, (R2.long (s.extract 2 s.size)), ((s.size : Nat) : Int)⟩ else (bif ((R2.Format (IntKind.wrap .i64 (W.byt s.data.toList 0))) == 7) then (bif ((W.byt s.data.toList 2) != 8) then ⟨(IntKind.wrap .i64 (W.byt s.data.toList 0)), (bif ((((R2.Format (IntKind.wrap .i64 (W.byt s.data.toList 0))) == 2) || ((R2.Format (IntKind.wrap .i64 (W.byt s.data.toList 0))) == 4)) || ((R2.Format (IntKind.wrap .i64 (W.byt s.data.toList 0))) == 5)) then (IntKind.wrap .i64 (W.byt s.data.toList 1)) else (bif (decide (((s.size : Nat) : Int) > 1)) then (IntKind.wrap .i64 (Int.tdiv (IntKind.wrap .i64 (W.byt s.data.toList 1)) 16)) else 0)), (bif ((((R2.Format (IntKind.wrap .i64 (W.byt s.data.toList 0))) == 2) || ((R2.Format (IntKind.wrap .i64 (W.byt s.data.toList 0))) == 4)) || ((R2.Format (IntKind.wrap .i64 (W.byt s.data.toList 0))) == 5)) then 0 else (bif (decide (((s.size : Nat) : Int) > 1)) then (Int.tmod (IntKind.wrap .i64 (W.byt s.data.toList 1)) 16) else 0)), (Int.tmod (IntKind.wrap .i64 (W.byt s.data.toList 2)) 16), (IntKind.wrap .i64 (Int.tdiv (IntKind.wrap .i64 (W.byt s.data.toList 2)) 16)), (R2.long (s.extract 3 s.size)), ((s.size : Nat) : Int)⟩ else ⟨(IntKind.wrap .i64 (W.byt s.data.toList 0)), (bif ((((R2.Format (IntKind.wrap .i64 (W.byt s.data.toList 0))) == 2) || ((R2.Format (IntKind.wrap .i64 (W.byt s.data.toList 0))) == 4)) || ((R2.Format (IntKind.wrap .i64 (W.byt s.data.toList 0))) == 5)) then (IntKind.wrap .i64 (W.byt s.data.toList 1)) else (bif (decide (((s.size : Nat) : Int) > 1)) then (IntKind.wrap .i64 (Int.tdiv (IntKind.wrap .i64 (W.byt s.data.toList 1)) 16)) else 0)), (bif ((((R2.Format (IntKind.wrap .i64 (W.byt s.data.toList 0))) == 2) || ((R2.Format (IntKind.wrap .i64 (W.byt s.data.toList 0))) == 4)) || ((R2.Format (IntKind.wrap .i64 (W.byt s.data.toList 0))) == 5)) then 0 else (bif (decide (((s.size : Nat) : Int) > 1)) then (Int.tmod (IntKind.wrap .i64 (W.byt s.data.toList 1)) 16) else 0)), -1, 0, (R2.long (s.extract 3 s.size)), ((s.size : Nat) : Int)⟩) else (bif (((R2.Format (IntKind.wrap .i64 (W.byt s.data.toList 0))) == 8) || (((R2.Format (IntKind.wrap .i64 (W.byt s.data.toList 0))) == 10) || ((R2.Format (IntKind.wrap .i64 (W.byt s.data.toList 0))) == 9))) then (bif ((R2.Format (IntKind.wrap .i64 (W.byt s.data.toList 0))) == 9) then ⟨(IntKind.wrap .i64 (W.byt s.data.toList 0)), 0, 0, -1, 0, (R2.long (s.extract 1 s.size)), ((s.size : Nat) : Int)⟩ else ⟨(IntKind.wrap .i64 (W.byt s.data.toList 0)), 0, 0, -1, 0, (bif ((R2.Format (IntKind.wrap .i64 (W.byt s.data.toList 0))) == 8) then (R2.extend (W.byt s.data.toList 1)) else (IntKind.wrap .u32 (W.byt s.data.toList 1))), ((s.size : Nat) : Int)⟩) else ⟨(IntKind.wrap .i64 (W.byt s.data.toList 0)), (bif ((((R2.Format (IntKind.wrap .i64 (W.byt s.data.toList 0))) == 2) || ((R2.Format (IntKind.wrap .i64 (W.byt s.data.toList 0))) == 4)) || ((R2.Format (IntKind.wrap .i64 (W.byt s.data.toList 0))) == 5)) then (IntKind.wrap .i64 (W.byt s.data.toList 1)) else (bif (decide (((s.size : Nat) : Int) > 1)) then (IntKind.wrap .i64 (Int.tdiv (IntKind.wrap .i64 (W.byt s.data.toList 1)) 16)) else 0)), (bif ((((R2.Format (IntKind.wrap .i64 (W.byt s.data.toList 0))) == 2) || ((R2.Format (IntKind.wrap .i64 (W.byt s.data.toList 0))) == 4)) || ((R2.Format (IntKind.wrap .i64 (W.byt s.data.toList 0))) == 5)) then 0 else (bif (decide (((s.size : Nat) : Int) > 1)) then (Int.tmod (IntKind.wrap .i64 (W.byt s.data.toList 1)) 16) else 0)), -1, 0, 0, ((s.size : Nat) : Int)⟩))))
theorem R2_read (s : ByteArray) (h0 : 0 < s.size) (hS : (s.size : Int) = R2.Size (W.byt s.data.toList 0)) (w : World) : Calls Try.prog 29 #[.string s] w fun e w' => e = .returned (.agg #[.int .i64 (((R2.read s)).op), .int .i64 (((R2.read s)).d), .int .i64 (((R2.read s)).s), .int .i64 (((R2.read s)).ix), .int .i64 (((R2.read s)).sc), .int .u32 (((R2.read s)).imm), .int .i64 (((R2.read s)).sz)]) ∧ Bel w w' := by
  have hc := R2.Size_cases (W.byt s.data.toList 0)
  refine E.enter (n := 99) (S := fun _ => False) Try.func29 rfl rfl (by kernel_rfl) (E.Hp.start w) ?_
  refine E.C.seq ?_
  refine E.C.region ?_
  refine E.G.new (fun g => .pointer (some ⟨g, 0, none⟩)) [.int .i64 0, .int .i64 0, .int .i64 0, .int .i64 0, .int .i64 0, .int .u32 0, .int .i64 0] 27 (fun w => by kernel_rfl) (by kernel_rfl) (fun g1 => ?_)
  refine E.To.code ?_
  refine E.C.seq ?_
  refine E.C.region ?_
  refine E.G.op (.string s) (fun w => by kernel_rfl) (by kernel_rfl) ?_
  refine E.G.val (.int .u8 (W.byt s.data.toList 0)) (by kernel_rfl) (fun w h => E.sidx s .i64 0 (by kernel_rfl) (by kernel_rfl) (by kernel_rfl) (by first | (have hp := E.size_pos (by assumption); (try simp only [beq_iff_eq, bne_iff_ne, ne_eq, Bool.or_eq_true, Bool.and_eq_true, beq_eq_false_iff_ne, decide_eq_true_eq, decide_eq_false_iff_not, Bool.or_eq_false_iff, Bool.not_eq_true, gt_iff_lt] at *); omega) | ((try simp only [beq_iff_eq, bne_iff_ne, ne_eq, Bool.or_eq_true, Bool.and_eq_true, beq_eq_false_iff_ne, decide_eq_true_eq, decide_eq_false_iff_not, Bool.or_eq_false_iff, Bool.not_eq_true, gt_iff_lt] at *); omega)) (by first | (have hp := E.size_pos (by assumption); (try simp only [beq_iff_eq, bne_iff_ne, ne_eq, Bool.or_eq_true, Bool.and_eq_true, beq_eq_false_iff_ne, decide_eq_true_eq, decide_eq_false_iff_not, Bool.or_eq_false_iff, Bool.not_eq_true, gt_iff_lt] at *); omega) | ((try simp only [beq_iff_eq, bne_iff_ne, ne_eq, Bool.or_eq_true, Bool.and_eq_true, beq_eq_false_iff_ne, decide_eq_true_eq, decide_eq_false_iff_not, Bool.or_eq_false_iff, Bool.not_eq_true, gt_iff_lt] at *); omega)) w) ?_
  refine E.G.op (.int .i64 (IntKind.wrap .i64 (W.byt s.data.toList 0))) (fun w => by kernel_rfl) (by kernel_rfl) ?_
  refine E.G.call (.int .i64 (R2.Format (IntKind.wrap .i64 (W.byt s.data.toList 0)))) (fun w h => R2_Format _ w) (fun w _ => by kernel_rfl) (by kernel_rfl) ?_
  refine E.G.op (.int .i64 (R2.Format (IntKind.wrap .i64 (W.byt s.data.toList 0)))) (fun w => by kernel_rfl) (by kernel_rfl) ?_
  refine E.To.code ?_
  refine E.C.seq ?_
  refine E.C.region ?_
  refine E.G.op (.string s) (fun w => by kernel_rfl) (by kernel_rfl) ?_
  refine E.G.val (.int .u8 (W.byt s.data.toList 0)) (by kernel_rfl) (fun w h => E.sidx s .i64 0 (by kernel_rfl) (by kernel_rfl) (by kernel_rfl) (by first | (have hp := E.size_pos (by assumption); (try simp only [beq_iff_eq, bne_iff_ne, ne_eq, Bool.or_eq_true, Bool.and_eq_true, beq_eq_false_iff_ne, decide_eq_true_eq, decide_eq_false_iff_not, Bool.or_eq_false_iff, Bool.not_eq_true, gt_iff_lt] at *); omega) | ((try simp only [beq_iff_eq, bne_iff_ne, ne_eq, Bool.or_eq_true, Bool.and_eq_true, beq_eq_false_iff_ne, decide_eq_true_eq, decide_eq_false_iff_not, Bool.or_eq_false_iff, Bool.not_eq_true, gt_iff_lt] at *); omega)) (by first | (have hp := E.size_pos (by assumption); (try simp only [beq_iff_eq, bne_iff_ne, ne_eq, Bool.or_eq_true, Bool.and_eq_true, beq_eq_false_iff_ne, decide_eq_true_eq, decide_eq_false_iff_not, Bool.or_eq_false_iff, Bool.not_eq_true, gt_iff_lt] at *); omega) | ((try simp only [beq_iff_eq, bne_iff_ne, ne_eq, Bool.or_eq_true, Bool.and_eq_true, beq_eq_false_iff_ne, decide_eq_true_eq, decide_eq_false_iff_not, Bool.or_eq_false_iff, Bool.not_eq_true, gt_iff_lt] at *); omega)) w) ?_
  refine E.G.op (.int .i64 (IntKind.wrap .i64 (W.byt s.data.toList 0))) (fun w => by kernel_rfl) (by kernel_rfl) ?_
  refine E.G.op (.string s) (fun w => by kernel_rfl) (by kernel_rfl) ?_
  refine E.G.op (.int .i64 ((s.size : Nat) : Int)) (fun w => by kernel_rfl) (by kernel_rfl) ?_
  refine E.G.val (.agg #[.int .i64 (IntKind.wrap .i64 (W.byt s.data.toList 0)), .int .i64 0, .int .i64 0, .int .i64 (-1), .int .i64 0, .int .u32 0, .int .i64 ((s.size : Nat) : Int)]) (by kernel_rfl) (fun w h => E.run_build #[.int .i64 (IntKind.wrap .i64 (W.byt s.data.toList 0)), .int .i64 0, .int .i64 0, .int .i64 (-1), .int .i64 0, .int .u32 0, .int .i64 ((s.size : Nat) : Int)] (by kernel_rfl) w) ?_
  refine E.G.new (fun g => .pointer (some ⟨g, 0, none⟩)) [.int .i64 0, .int .i64 0, .int .i64 0, .int .i64 0, .int .i64 0, .int .u32 0, .int .i64 0] 27 (fun w => by kernel_rfl) (by kernel_rfl) (fun g2 => ?_)
  refine E.G.store 0 [.int .i64 (IntKind.wrap .i64 (W.byt s.data.toList 0)), .int .i64 0, .int .i64 0, .int .i64 (-1), .int .i64 0, .int .u32 0, .int .i64 ((s.size : Nat) : Int)] rfl rfl (by kernel_rfl) (by kernel_rfl) ?_
  refine E.To.code ?_
  refine E.C.weak [(0, .string s), (2, .pointer (some ⟨g1, 0, none⟩)), (3, .int .i64 (R2.Format (IntKind.wrap .i64 (W.byt s.data.toList 0)))), (4, .pointer (some ⟨g2, 0, none⟩))] [(g2, [.int .i64 (IntKind.wrap .i64 (W.byt s.data.toList 0)), .int .i64 0, .int .i64 0, .int .i64 (-1), .int .i64 0, .int .u32 0, .int .i64 ((s.size : Nat) : Int)]), (g1, [.int .i64 0, .int .i64 0, .int .i64 0, .int .i64 0, .int .i64 0, .int .u32 0, .int .i64 0])] ⟨by kernel_rfl, by kernel_rfl⟩ (List.Sublist.refl _) ?_
  refine E.C.seq ?_
  refine E.C.seq ?_
  refine E.C.region ?_
  refine E.G.op (.string s) (fun w => by kernel_rfl) (by kernel_rfl) ?_
  refine E.G.op (.int .i64 ((s.size : Nat) : Int)) (fun w => by kernel_rfl) (by kernel_rfl) ?_
  refine E.G.op (.bool (decide (((s.size : Nat) : Int) > 1))) (fun w => by kernel_rfl) (by kernel_rfl) ?_
  refine E.To.code ?_
  refine E.C.thencut [(0, .string s), (2, .pointer (some ⟨g1, 0, none⟩)), (3, .int .i64 (R2.Format (IntKind.wrap .i64 (W.byt s.data.toList 0)))), (4, .pointer (some ⟨g2, 0, none⟩))] (fun _ => True) [(g2, [.int .i64 (IntKind.wrap .i64 (W.byt s.data.toList 0)), .int .i64 (bif (decide (((s.size : Nat) : Int) > 1)) then (IntKind.wrap .i64 (Int.tdiv (IntKind.wrap .i64 (W.byt s.data.toList 1)) 16)) else 0), .int .i64 (bif (decide (((s.size : Nat) : Int) > 1)) then (Int.tmod (IntKind.wrap .i64 (W.byt s.data.toList 1)) 16) else 0), .int .i64 (-1), .int .i64 0, .int .u32 0, .int .i64 ((s.size : Nat) : Int)]), (g1, [.int .i64 0, .int .i64 0, .int .i64 0, .int .i64 0, .int .i64 0, .int .u32 0, .int .i64 0])] ?_ ?_
  · skip
    generalize hc3 : (decide (((s.size : Nat) : Int) > 1)) = b4
    cases b4
    · skip
      refine E.C.condF (by kernel_rfl) (by kernel_rfl) ?_
      exact E.C.skip (E.To.pst ⟨by kernel_rfl, by kernel_rfl⟩ (List.Sublist.refl _) (fun _ h => h))
    · skip
      refine E.C.condT (by kernel_rfl) (by kernel_rfl) ?_
      refine E.C.seq ?_
      refine E.C.region ?_
      refine E.G.op (.string s) (fun w => by kernel_rfl) (by kernel_rfl) ?_
      refine E.G.val (.int .u8 (W.byt s.data.toList 1)) (by kernel_rfl) (fun w h => E.sidx s .i64 1 (by kernel_rfl) (by kernel_rfl) (by kernel_rfl) (by first | (have hp := E.size_pos (by assumption); (try simp only [beq_iff_eq, bne_iff_ne, ne_eq, Bool.or_eq_true, Bool.and_eq_true, beq_eq_false_iff_ne, decide_eq_true_eq, decide_eq_false_iff_not, Bool.or_eq_false_iff, Bool.not_eq_true, gt_iff_lt] at *); omega) | ((try simp only [beq_iff_eq, bne_iff_ne, ne_eq, Bool.or_eq_true, Bool.and_eq_true, beq_eq_false_iff_ne, decide_eq_true_eq, decide_eq_false_iff_not, Bool.or_eq_false_iff, Bool.not_eq_true, gt_iff_lt] at *); omega)) (by first | (have hp := E.size_pos (by assumption); (try simp only [beq_iff_eq, bne_iff_ne, ne_eq, Bool.or_eq_true, Bool.and_eq_true, beq_eq_false_iff_ne, decide_eq_true_eq, decide_eq_false_iff_not, Bool.or_eq_false_iff, Bool.not_eq_true, gt_iff_lt] at *); omega) | ((try simp only [beq_iff_eq, bne_iff_ne, ne_eq, Bool.or_eq_true, Bool.and_eq_true, beq_eq_false_iff_ne, decide_eq_true_eq, decide_eq_false_iff_not, Bool.or_eq_false_iff, Bool.not_eq_true, gt_iff_lt] at *); omega)) w) ?_
      refine E.G.op (.int .i64 (IntKind.wrap .i64 (W.byt s.data.toList 1))) (fun w => by kernel_rfl) (by kernel_rfl) ?_
      refine E.G.op (.int .i64 (IntKind.wrap .i64 (Int.tdiv (IntKind.wrap .i64 (W.byt s.data.toList 1)) 16))) (fun w => by kernel_rfl) (by kernel_rfl) ?_
      refine E.G.op (.pointer (some ⟨g2, 1, none⟩)) (fun w => by kernel_rfl) (by kernel_rfl) ?_
      refine E.G.store 0 [.int .i64 (IntKind.wrap .i64 (W.byt s.data.toList 0)), .int .i64 (IntKind.wrap .i64 (Int.tdiv (IntKind.wrap .i64 (W.byt s.data.toList 1)) 16)), .int .i64 0, .int .i64 (-1), .int .i64 0, .int .u32 0, .int .i64 ((s.size : Nat) : Int)] rfl rfl (by kernel_rfl) (by kernel_rfl) ?_
      refine E.To.code ?_
      refine E.C.weak [(0, .string s), (2, .pointer (some ⟨g1, 0, none⟩)), (3, .int .i64 (R2.Format (IntKind.wrap .i64 (W.byt s.data.toList 0)))), (4, .pointer (some ⟨g2, 0, none⟩))] [(g2, [.int .i64 (IntKind.wrap .i64 (W.byt s.data.toList 0)), .int .i64 (IntKind.wrap .i64 (Int.tdiv (IntKind.wrap .i64 (W.byt s.data.toList 1)) 16)), .int .i64 0, .int .i64 (-1), .int .i64 0, .int .u32 0, .int .i64 ((s.size : Nat) : Int)]), (g1, [.int .i64 0, .int .i64 0, .int .i64 0, .int .i64 0, .int .i64 0, .int .u32 0, .int .i64 0])] ⟨by kernel_rfl, by kernel_rfl⟩ (List.Sublist.refl _) ?_
      refine E.C.region ?_
      refine E.G.op (.string s) (fun w => by kernel_rfl) (by kernel_rfl) ?_
      refine E.G.val (.int .u8 (W.byt s.data.toList 1)) (by kernel_rfl) (fun w h => E.sidx s .i64 1 (by kernel_rfl) (by kernel_rfl) (by kernel_rfl) (by first | (have hp := E.size_pos (by assumption); (try simp only [beq_iff_eq, bne_iff_ne, ne_eq, Bool.or_eq_true, Bool.and_eq_true, beq_eq_false_iff_ne, decide_eq_true_eq, decide_eq_false_iff_not, Bool.or_eq_false_iff, Bool.not_eq_true, gt_iff_lt] at *); omega) | ((try simp only [beq_iff_eq, bne_iff_ne, ne_eq, Bool.or_eq_true, Bool.and_eq_true, beq_eq_false_iff_ne, decide_eq_true_eq, decide_eq_false_iff_not, Bool.or_eq_false_iff, Bool.not_eq_true, gt_iff_lt] at *); omega)) (by first | (have hp := E.size_pos (by assumption); (try simp only [beq_iff_eq, bne_iff_ne, ne_eq, Bool.or_eq_true, Bool.and_eq_true, beq_eq_false_iff_ne, decide_eq_true_eq, decide_eq_false_iff_not, Bool.or_eq_false_iff, Bool.not_eq_true, gt_iff_lt] at *); omega) | ((try simp only [beq_iff_eq, bne_iff_ne, ne_eq, Bool.or_eq_true, Bool.and_eq_true, beq_eq_false_iff_ne, decide_eq_true_eq, decide_eq_false_iff_not, Bool.or_eq_false_iff, Bool.not_eq_true, gt_iff_lt] at *); omega)) w) ?_
      refine E.G.op (.int .i64 (IntKind.wrap .i64 (W.byt s.data.toList 1))) (fun w => by kernel_rfl) (by kernel_rfl) ?_
      refine E.G.op (.int .i64 (Int.tmod (IntKind.wrap .i64 (W.byt s.data.toList 1)) 16)) (fun w => by kernel_rfl) (by kernel_rfl) ?_
      refine E.G.op (.pointer (some ⟨g2, 2, none⟩)) (fun w => by kernel_rfl) (by kernel_rfl) ?_
      refine E.G.store 0 [.int .i64 (IntKind.wrap .i64 (W.byt s.data.toList 0)), .int .i64 (IntKind.wrap .i64 (Int.tdiv (IntKind.wrap .i64 (W.byt s.data.toList 1)) 16)), .int .i64 (Int.tmod (IntKind.wrap .i64 (W.byt s.data.toList 1)) 16), .int .i64 (-1), .int .i64 0, .int .u32 0, .int .i64 ((s.size : Nat) : Int)] rfl rfl (by kernel_rfl) (by kernel_rfl) ?_
      exact E.To.pst ⟨by kernel_rfl, by kernel_rfl⟩ (List.Sublist.refl _) (fun _ h => h)
  refine E.C.seq ?_
  refine E.C.seq ?_
  refine E.C.region ?_
  refine E.G.op (.int .i64 (R2.Format (IntKind.wrap .i64 (W.byt s.data.toList 0)))) (fun w => by kernel_rfl) (by kernel_rfl) ?_
  refine E.G.op (.bool ((R2.Format (IntKind.wrap .i64 (W.byt s.data.toList 0))) == 2)) (fun w => by kernel_rfl) (by kernel_rfl) ?_
  refine E.G.op (.bool ((R2.Format (IntKind.wrap .i64 (W.byt s.data.toList 0))) == 2)) (fun w => by kernel_rfl) (by kernel_rfl) ?_
  refine E.G.cut 3 [(0, .string s), (2, .pointer (some ⟨g1, 0, none⟩)), (3, .int .i64 (R2.Format (IntKind.wrap .i64 (W.byt s.data.toList 0)))), (4, .pointer (some ⟨g2, 0, none⟩)), (33, .bool (((R2.Format (IntKind.wrap .i64 (W.byt s.data.toList 0))) == 2) || ((R2.Format (IntKind.wrap .i64 (W.byt s.data.toList 0))) == 4)))] (fun _ => True) [(g2, [.int .i64 (IntKind.wrap .i64 (W.byt s.data.toList 0)), .int .i64 (bif (decide (((s.size : Nat) : Int) > 1)) then (IntKind.wrap .i64 (Int.tdiv (IntKind.wrap .i64 (W.byt s.data.toList 1)) 16)) else 0), .int .i64 (bif (decide (((s.size : Nat) : Int) > 1)) then (Int.tmod (IntKind.wrap .i64 (W.byt s.data.toList 1)) 16) else 0), .int .i64 (-1), .int .i64 0, .int .u32 0, .int .i64 ((s.size : Nat) : Int)]), (g1, [.int .i64 0, .int .i64 0, .int .i64 0, .int .i64 0, .int .i64 0, .int .u32 0, .int .i64 0])] ?_ ?_
  · generalize hc5 : ((R2.Format (IntKind.wrap .i64 (W.byt s.data.toList 0))) == 2) = b6
    cases b6
    · skip
      refine E.G.op (.int .i64 (R2.Format (IntKind.wrap .i64 (W.byt s.data.toList 0)))) (fun w => by kernel_rfl) (by kernel_rfl) ?_
      refine E.G.op (.bool ((R2.Format (IntKind.wrap .i64 (W.byt s.data.toList 0))) == 4)) (fun w => by kernel_rfl) (by kernel_rfl) ?_
      refine E.G.op (.bool ((R2.Format (IntKind.wrap .i64 (W.byt s.data.toList 0))) == 4)) (fun w => by kernel_rfl) (by kernel_rfl) ?_
      exact E.G.end_pst ⟨by kernel_rfl, by kernel_rfl⟩ (List.Sublist.refl _) (fun _ h => h)
    · skip
      refine E.G.skip (by kernel_rfl) (by kernel_rfl) ?_
      refine E.G.skip (by kernel_rfl) (by kernel_rfl) ?_
      refine E.G.op (.bool true) (fun w => by kernel_rfl) (by kernel_rfl) ?_
      exact E.G.end_pst ⟨by kernel_rfl, by kernel_rfl⟩ (List.Sublist.refl _) (fun _ h => h)
  refine E.G.op (.bool (((R2.Format (IntKind.wrap .i64 (W.byt s.data.toList 0))) == 2) || ((R2.Format (IntKind.wrap .i64 (W.byt s.data.toList 0))) == 4))) (fun w => by kernel_rfl) (by kernel_rfl) ?_
  refine E.G.cut 3 [(0, .string s), (2, .pointer (some ⟨g1, 0, none⟩)), (3, .int .i64 (R2.Format (IntKind.wrap .i64 (W.byt s.data.toList 0)))), (4, .pointer (some ⟨g2, 0, none⟩)), (37, .bool ((((R2.Format (IntKind.wrap .i64 (W.byt s.data.toList 0))) == 2) || ((R2.Format (IntKind.wrap .i64 (W.byt s.data.toList 0))) == 4)) || ((R2.Format (IntKind.wrap .i64 (W.byt s.data.toList 0))) == 5)))] (fun _ => True) [(g2, [.int .i64 (IntKind.wrap .i64 (W.byt s.data.toList 0)), .int .i64 (bif (decide (((s.size : Nat) : Int) > 1)) then (IntKind.wrap .i64 (Int.tdiv (IntKind.wrap .i64 (W.byt s.data.toList 1)) 16)) else 0), .int .i64 (bif (decide (((s.size : Nat) : Int) > 1)) then (Int.tmod (IntKind.wrap .i64 (W.byt s.data.toList 1)) 16) else 0), .int .i64 (-1), .int .i64 0, .int .u32 0, .int .i64 ((s.size : Nat) : Int)]), (g1, [.int .i64 0, .int .i64 0, .int .i64 0, .int .i64 0, .int .i64 0, .int .u32 0, .int .i64 0])] ?_ ?_
  · generalize hc7 : (((R2.Format (IntKind.wrap .i64 (W.byt s.data.toList 0))) == 2) || ((R2.Format (IntKind.wrap .i64 (W.byt s.data.toList 0))) == 4)) = b8
    cases b8
    · skip
      refine E.G.op (.int .i64 (R2.Format (IntKind.wrap .i64 (W.byt s.data.toList 0)))) (fun w => by kernel_rfl) (by kernel_rfl) ?_
      refine E.G.op (.bool ((R2.Format (IntKind.wrap .i64 (W.byt s.data.toList 0))) == 5)) (fun w => by kernel_rfl) (by kernel_rfl) ?_
      refine E.G.op (.bool ((R2.Format (IntKind.wrap .i64 (W.byt s.data.toList 0))) == 5)) (fun w => by kernel_rfl) (by kernel_rfl) ?_
      exact E.G.end_pst ⟨by kernel_rfl, by kernel_rfl⟩ (List.Sublist.refl _) (fun _ h => h)
    · skip
      refine E.G.skip (by kernel_rfl) (by kernel_rfl) ?_
      refine E.G.skip (by kernel_rfl) (by kernel_rfl) ?_
      refine E.G.op (.bool true) (fun w => by kernel_rfl) (by kernel_rfl) ?_
      exact E.G.end_pst ⟨by kernel_rfl, by kernel_rfl⟩ (List.Sublist.refl _) (fun _ h => h)
  refine E.To.code ?_
  refine E.C.thencut [(0, .string s), (2, .pointer (some ⟨g1, 0, none⟩)), (3, .int .i64 (R2.Format (IntKind.wrap .i64 (W.byt s.data.toList 0)))), (4, .pointer (some ⟨g2, 0, none⟩))] (fun _ => True) [(g2, [.int .i64 (IntKind.wrap .i64 (W.byt s.data.toList 0)), .int .i64 (bif ((((R2.Format (IntKind.wrap .i64 (W.byt s.data.toList 0))) == 2) || ((R2.Format (IntKind.wrap .i64 (W.byt s.data.toList 0))) == 4)) || ((R2.Format (IntKind.wrap .i64 (W.byt s.data.toList 0))) == 5)) then (IntKind.wrap .i64 (W.byt s.data.toList 1)) else (bif (decide (((s.size : Nat) : Int) > 1)) then (IntKind.wrap .i64 (Int.tdiv (IntKind.wrap .i64 (W.byt s.data.toList 1)) 16)) else 0)), .int .i64 (bif ((((R2.Format (IntKind.wrap .i64 (W.byt s.data.toList 0))) == 2) || ((R2.Format (IntKind.wrap .i64 (W.byt s.data.toList 0))) == 4)) || ((R2.Format (IntKind.wrap .i64 (W.byt s.data.toList 0))) == 5)) then 0 else (bif (decide (((s.size : Nat) : Int) > 1)) then (Int.tmod (IntKind.wrap .i64 (W.byt s.data.toList 1)) 16) else 0)), .int .i64 (-1), .int .i64 0, .int .u32 0, .int .i64 ((s.size : Nat) : Int)]), (g1, [.int .i64 0, .int .i64 0, .int .i64 0, .int .i64 0, .int .i64 0, .int .u32 0, .int .i64 0])] ?_ ?_
  · skip
    generalize hc9 : ((((R2.Format (IntKind.wrap .i64 (W.byt s.data.toList 0))) == 2) || ((R2.Format (IntKind.wrap .i64 (W.byt s.data.toList 0))) == 4)) || ((R2.Format (IntKind.wrap .i64 (W.byt s.data.toList 0))) == 5)) = b10
    cases b10
    · skip
      refine E.C.condF (by kernel_rfl) (by kernel_rfl) ?_
      exact E.C.skip (E.To.pst ⟨by kernel_rfl, by kernel_rfl⟩ (List.Sublist.refl _) (fun _ h => h))
    · skip
      refine E.C.condT (by kernel_rfl) (by kernel_rfl) ?_
      refine E.C.seq ?_
      refine E.C.region ?_
      refine E.G.op (.string s) (fun w => by kernel_rfl) (by kernel_rfl) ?_
      refine E.G.val (.int .u8 (W.byt s.data.toList 1)) (by kernel_rfl) (fun w h => E.sidx s .i64 1 (by kernel_rfl) (by kernel_rfl) (by kernel_rfl) (by first | (have hp := E.size_pos (by assumption); (try simp only [beq_iff_eq, bne_iff_ne, ne_eq, Bool.or_eq_true, Bool.and_eq_true, beq_eq_false_iff_ne, decide_eq_true_eq, decide_eq_false_iff_not, Bool.or_eq_false_iff, Bool.not_eq_true, gt_iff_lt] at *); omega) | ((try simp only [beq_iff_eq, bne_iff_ne, ne_eq, Bool.or_eq_true, Bool.and_eq_true, beq_eq_false_iff_ne, decide_eq_true_eq, decide_eq_false_iff_not, Bool.or_eq_false_iff, Bool.not_eq_true, gt_iff_lt] at *); omega)) (by first | (have hp := E.size_pos (by assumption); (try simp only [beq_iff_eq, bne_iff_ne, ne_eq, Bool.or_eq_true, Bool.and_eq_true, beq_eq_false_iff_ne, decide_eq_true_eq, decide_eq_false_iff_not, Bool.or_eq_false_iff, Bool.not_eq_true, gt_iff_lt] at *); omega) | ((try simp only [beq_iff_eq, bne_iff_ne, ne_eq, Bool.or_eq_true, Bool.and_eq_true, beq_eq_false_iff_ne, decide_eq_true_eq, decide_eq_false_iff_not, Bool.or_eq_false_iff, Bool.not_eq_true, gt_iff_lt] at *); omega)) w) ?_
      refine E.G.op (.int .i64 (IntKind.wrap .i64 (W.byt s.data.toList 1))) (fun w => by kernel_rfl) (by kernel_rfl) ?_
      refine E.G.op (.pointer (some ⟨g2, 1, none⟩)) (fun w => by kernel_rfl) (by kernel_rfl) ?_
      refine E.G.store 0 [.int .i64 (IntKind.wrap .i64 (W.byt s.data.toList 0)), .int .i64 (IntKind.wrap .i64 (W.byt s.data.toList 1)), .int .i64 (bif (decide (((s.size : Nat) : Int) > 1)) then (Int.tmod (IntKind.wrap .i64 (W.byt s.data.toList 1)) 16) else 0), .int .i64 (-1), .int .i64 0, .int .u32 0, .int .i64 ((s.size : Nat) : Int)] rfl rfl (by kernel_rfl) (by kernel_rfl) ?_
      refine E.To.code ?_
      refine E.C.region ?_
      refine E.G.op (.pointer (some ⟨g2, 2, none⟩)) (fun w => by kernel_rfl) (by kernel_rfl) ?_
      refine E.G.store 0 [.int .i64 (IntKind.wrap .i64 (W.byt s.data.toList 0)), .int .i64 (IntKind.wrap .i64 (W.byt s.data.toList 1)), .int .i64 0, .int .i64 (-1), .int .i64 0, .int .u32 0, .int .i64 ((s.size : Nat) : Int)] rfl rfl (by kernel_rfl) (by kernel_rfl) ?_
      exact E.To.pst ⟨by kernel_rfl, by kernel_rfl⟩ (List.Sublist.refl _) (fun _ h => h)
  refine E.C.seq ?_
  refine E.C.seq ?_
  refine E.C.region ?_
  refine E.G.op (.int .i64 (R2.Format (IntKind.wrap .i64 (W.byt s.data.toList 0)))) (fun w => by kernel_rfl) (by kernel_rfl) ?_
  refine E.To.code ?_
  refine E.C.block ?_
  refine E.C.seq ?_
  refine E.C.seq ?_
  refine E.C.region ?_
  refine E.G.op (.bool ((R2.Format (IntKind.wrap .i64 (W.byt s.data.toList 0))) == 4)) (fun w => by kernel_rfl) (by kernel_rfl) ?_
  refine E.G.op (.bool ((R2.Format (IntKind.wrap .i64 (W.byt s.data.toList 0))) == 4)) (fun w => by kernel_rfl) (by kernel_rfl) ?_
  refine E.To.code ?_
  refine E.C.thencut [(0, .string s), (2, .pointer (some ⟨g1, 0, none⟩)), (3, .int .i64 (R2.Format (IntKind.wrap .i64 (W.byt s.data.toList 0)))), (4, .pointer (some ⟨g2, 0, none⟩)), (43, .int .i64 (R2.Format (IntKind.wrap .i64 (W.byt s.data.toList 0)))), (44, .bool (((R2.Format (IntKind.wrap .i64 (W.byt s.data.toList 0))) == 4) || ((R2.Format (IntKind.wrap .i64 (W.byt s.data.toList 0))) == 6)))] (fun _ => True) [(g2, [.int .i64 (IntKind.wrap .i64 (W.byt s.data.toList 0)), .int .i64 (bif ((((R2.Format (IntKind.wrap .i64 (W.byt s.data.toList 0))) == 2) || ((R2.Format (IntKind.wrap .i64 (W.byt s.data.toList 0))) == 4)) || ((R2.Format (IntKind.wrap .i64 (W.byt s.data.toList 0))) == 5)) then (IntKind.wrap .i64 (W.byt s.data.toList 1)) else (bif (decide (((s.size : Nat) : Int) > 1)) then (IntKind.wrap .i64 (Int.tdiv (IntKind.wrap .i64 (W.byt s.data.toList 1)) 16)) else 0)), .int .i64 (bif ((((R2.Format (IntKind.wrap .i64 (W.byt s.data.toList 0))) == 2) || ((R2.Format (IntKind.wrap .i64 (W.byt s.data.toList 0))) == 4)) || ((R2.Format (IntKind.wrap .i64 (W.byt s.data.toList 0))) == 5)) then 0 else (bif (decide (((s.size : Nat) : Int) > 1)) then (Int.tmod (IntKind.wrap .i64 (W.byt s.data.toList 1)) 16) else 0)), .int .i64 (-1), .int .i64 0, .int .u32 0, .int .i64 ((s.size : Nat) : Int)]), (g1, [.int .i64 0, .int .i64 0, .int .i64 0, .int .i64 0, .int .i64 0, .int .u32 0, .int .i64 0])] ?_ ?_
  · skip
    generalize hc11 : ((R2.Format (IntKind.wrap .i64 (W.byt s.data.toList 0))) == 4) = b12
    cases b12
    · skip
      refine E.C.condF (by kernel_rfl) (by kernel_rfl) ?_
      refine E.C.region ?_
      refine E.G.op (.bool ((R2.Format (IntKind.wrap .i64 (W.byt s.data.toList 0))) == 6)) (fun w => by kernel_rfl) (by kernel_rfl) ?_
      refine E.G.op (.bool ((R2.Format (IntKind.wrap .i64 (W.byt s.data.toList 0))) == 6)) (fun w => by kernel_rfl) (by kernel_rfl) ?_
      exact E.To.pst ⟨by kernel_rfl, by kernel_rfl⟩ (List.Sublist.refl _) (fun _ h => h)
    · skip
      refine E.C.condT (by kernel_rfl) (by kernel_rfl) ?_
      exact E.C.skip (E.To.pst ⟨by kernel_rfl, by kernel_rfl⟩ (List.Sublist.refl _) (fun _ h => h))
  refine E.C.cond (((R2.Format (IntKind.wrap .i64 (W.byt s.data.toList 0))) == 4) || ((R2.Format (IntKind.wrap .i64 (W.byt s.data.toList 0))) == 6)) (by kernel_rfl) (by kernel_rfl) (fun hc13 => ?_) (fun hc13 => ?_)
  · skip
    refine E.C.region ?_
    refine E.G.op (.string s) (fun w => by kernel_rfl) (by kernel_rfl) ?_
    refine E.G.val (.int .u8 (W.byt s.data.toList 2)) (by kernel_rfl) (fun w h => E.sidx s .i64 2 (by kernel_rfl) (by kernel_rfl) (by kernel_rfl) (by first | (have hp := E.size_pos (by assumption); (try simp only [beq_iff_eq, bne_iff_ne, ne_eq, Bool.or_eq_true, Bool.and_eq_true, beq_eq_false_iff_ne, decide_eq_true_eq, decide_eq_false_iff_not, Bool.or_eq_false_iff, Bool.not_eq_true, gt_iff_lt] at *); omega) | ((try simp only [beq_iff_eq, bne_iff_ne, ne_eq, Bool.or_eq_true, Bool.and_eq_true, beq_eq_false_iff_ne, decide_eq_true_eq, decide_eq_false_iff_not, Bool.or_eq_false_iff, Bool.not_eq_true, gt_iff_lt] at *); omega)) (by first | (have hp := E.size_pos (by assumption); (try simp only [beq_iff_eq, bne_iff_ne, ne_eq, Bool.or_eq_true, Bool.and_eq_true, beq_eq_false_iff_ne, decide_eq_true_eq, decide_eq_false_iff_not, Bool.or_eq_false_iff, Bool.not_eq_true, gt_iff_lt] at *); omega) | ((try simp only [beq_iff_eq, bne_iff_ne, ne_eq, Bool.or_eq_true, Bool.and_eq_true, beq_eq_false_iff_ne, decide_eq_true_eq, decide_eq_false_iff_not, Bool.or_eq_false_iff, Bool.not_eq_true, gt_iff_lt] at *); omega)) w) ?_
    refine E.G.call (.int .u32 (R2.extend (W.byt s.data.toList 2))) (fun w h => R2_extend _ w) (fun w _ => by kernel_rfl) (by kernel_rfl) ?_
    refine E.G.op (.pointer (some ⟨g2, 5, none⟩)) (fun w => by kernel_rfl) (by kernel_rfl) ?_
    refine E.G.store 0 [.int .i64 (IntKind.wrap .i64 (W.byt s.data.toList 0)), .int .i64 (bif ((((R2.Format (IntKind.wrap .i64 (W.byt s.data.toList 0))) == 2) || ((R2.Format (IntKind.wrap .i64 (W.byt s.data.toList 0))) == 4)) || ((R2.Format (IntKind.wrap .i64 (W.byt s.data.toList 0))) == 5)) then (IntKind.wrap .i64 (W.byt s.data.toList 1)) else (bif (decide (((s.size : Nat) : Int) > 1)) then (IntKind.wrap .i64 (Int.tdiv (IntKind.wrap .i64 (W.byt s.data.toList 1)) 16)) else 0)), .int .i64 (bif ((((R2.Format (IntKind.wrap .i64 (W.byt s.data.toList 0))) == 2) || ((R2.Format (IntKind.wrap .i64 (W.byt s.data.toList 0))) == 4)) || ((R2.Format (IntKind.wrap .i64 (W.byt s.data.toList 0))) == 5)) then 0 else (bif (decide (((s.size : Nat) : Int) > 1)) then (Int.tmod (IntKind.wrap .i64 (W.byt s.data.toList 1)) 16) else 0)), .int .i64 (-1), .int .i64 0, .int .u32 (R2.extend (W.byt s.data.toList 2)), .int .i64 ((s.size : Nat) : Int)] rfl rfl (by kernel_rfl) (by kernel_rfl) ?_
    refine E.P.nb (E.To.code ?_)
    refine E.C.weak [(2, .pointer (some ⟨g1, 0, none⟩)), (4, .pointer (some ⟨g2, 0, none⟩))] [(g2, [.int .i64 (IntKind.wrap .i64 (W.byt s.data.toList 0)), .int .i64 (bif ((((R2.Format (IntKind.wrap .i64 (W.byt s.data.toList 0))) == 2) || ((R2.Format (IntKind.wrap .i64 (W.byt s.data.toList 0))) == 4)) || ((R2.Format (IntKind.wrap .i64 (W.byt s.data.toList 0))) == 5)) then (IntKind.wrap .i64 (W.byt s.data.toList 1)) else (bif (decide (((s.size : Nat) : Int) > 1)) then (IntKind.wrap .i64 (Int.tdiv (IntKind.wrap .i64 (W.byt s.data.toList 1)) 16)) else 0)), .int .i64 (bif ((((R2.Format (IntKind.wrap .i64 (W.byt s.data.toList 0))) == 2) || ((R2.Format (IntKind.wrap .i64 (W.byt s.data.toList 0))) == 4)) || ((R2.Format (IntKind.wrap .i64 (W.byt s.data.toList 0))) == 5)) then 0 else (bif (decide (((s.size : Nat) : Int) > 1)) then (Int.tmod (IntKind.wrap .i64 (W.byt s.data.toList 1)) 16) else 0)), .int .i64 (-1), .int .i64 0, .int .u32 (R2.extend (W.byt s.data.toList 2)), .int .i64 ((s.size : Nat) : Int)]), (g1, [.int .i64 0, .int .i64 0, .int .i64 0, .int .i64 0, .int .i64 0, .int .u32 0, .int .i64 0])] ⟨by kernel_rfl, by kernel_rfl⟩ (List.Sublist.refl _) ?_
    refine E.C.seq ?_
    refine E.C.region ?_
    refine E.G.val (.agg #[.int .i64 (IntKind.wrap .i64 (W.byt s.data.toList 0)), .int .i64 (bif ((((R2.Format (IntKind.wrap .i64 (W.byt s.data.toList 0))) == 2) || ((R2.Format (IntKind.wrap .i64 (W.byt s.data.toList 0))) == 4)) || ((R2.Format (IntKind.wrap .i64 (W.byt s.data.toList 0))) == 5)) then (IntKind.wrap .i64 (W.byt s.data.toList 1)) else (bif (decide (((s.size : Nat) : Int) > 1)) then (IntKind.wrap .i64 (Int.tdiv (IntKind.wrap .i64 (W.byt s.data.toList 1)) 16)) else 0)), .int .i64 (bif ((((R2.Format (IntKind.wrap .i64 (W.byt s.data.toList 0))) == 2) || ((R2.Format (IntKind.wrap .i64 (W.byt s.data.toList 0))) == 4)) || ((R2.Format (IntKind.wrap .i64 (W.byt s.data.toList 0))) == 5)) then 0 else (bif (decide (((s.size : Nat) : Int) > 1)) then (Int.tmod (IntKind.wrap .i64 (W.byt s.data.toList 1)) 16) else 0)), .int .i64 (-1), .int .i64 0, .int .u32 (R2.extend (W.byt s.data.toList 2)), .int .i64 ((s.size : Nat) : Int)]) (by kernel_rfl) (fun w h => E.run_load h 0 rfl rfl (by kernel_rfl)) ?_
    refine E.G.store 1 [.int .i64 (IntKind.wrap .i64 (W.byt s.data.toList 0)), .int .i64 (bif ((((R2.Format (IntKind.wrap .i64 (W.byt s.data.toList 0))) == 2) || ((R2.Format (IntKind.wrap .i64 (W.byt s.data.toList 0))) == 4)) || ((R2.Format (IntKind.wrap .i64 (W.byt s.data.toList 0))) == 5)) then (IntKind.wrap .i64 (W.byt s.data.toList 1)) else (bif (decide (((s.size : Nat) : Int) > 1)) then (IntKind.wrap .i64 (Int.tdiv (IntKind.wrap .i64 (W.byt s.data.toList 1)) 16)) else 0)), .int .i64 (bif ((((R2.Format (IntKind.wrap .i64 (W.byt s.data.toList 0))) == 2) || ((R2.Format (IntKind.wrap .i64 (W.byt s.data.toList 0))) == 4)) || ((R2.Format (IntKind.wrap .i64 (W.byt s.data.toList 0))) == 5)) then 0 else (bif (decide (((s.size : Nat) : Int) > 1)) then (Int.tmod (IntKind.wrap .i64 (W.byt s.data.toList 1)) 16) else 0)), .int .i64 (-1), .int .i64 0, .int .u32 (R2.extend (W.byt s.data.toList 2)), .int .i64 ((s.size : Nat) : Int)] rfl rfl (by kernel_rfl) (by kernel_rfl) ?_
    refine E.To.code ?_
    refine E.C.ret (E.To.body (fn := Try.f29) [.agg #[.int .i64 (IntKind.wrap .i64 (W.byt s.data.toList 0)), .int .i64 (bif ((((R2.Format (IntKind.wrap .i64 (W.byt s.data.toList 0))) == 2) || ((R2.Format (IntKind.wrap .i64 (W.byt s.data.toList 0))) == 4)) || ((R2.Format (IntKind.wrap .i64 (W.byt s.data.toList 0))) == 5)) then (IntKind.wrap .i64 (W.byt s.data.toList 1)) else (bif (decide (((s.size : Nat) : Int) > 1)) then (IntKind.wrap .i64 (Int.tdiv (IntKind.wrap .i64 (W.byt s.data.toList 1)) 16)) else 0)), .int .i64 (bif ((((R2.Format (IntKind.wrap .i64 (W.byt s.data.toList 0))) == 2) || ((R2.Format (IntKind.wrap .i64 (W.byt s.data.toList 0))) == 4)) || ((R2.Format (IntKind.wrap .i64 (W.byt s.data.toList 0))) == 5)) then 0 else (bif (decide (((s.size : Nat) : Int) > 1)) then (Int.tmod (IntKind.wrap .i64 (W.byt s.data.toList 1)) 16) else 0)), .int .i64 (-1), .int .i64 0, .int .u32 (R2.extend (W.byt s.data.toList 2)), .int .i64 ((s.size : Nat) : Int)]] ?_ ?_)
    · exact ⟨⟨by kernel_rfl, _, _, 1, _, rfl, rfl, by kernel_rfl⟩, trivial⟩
    · intro w h
      exact ⟨by show Ending.returned (.agg #[.int .i64 (IntKind.wrap .i64 (W.byt s.data.toList 0)), .int .i64 (bif ((((R2.Format (IntKind.wrap .i64 (W.byt s.data.toList 0))) == 2) || ((R2.Format (IntKind.wrap .i64 (W.byt s.data.toList 0))) == 4)) || ((R2.Format (IntKind.wrap .i64 (W.byt s.data.toList 0))) == 5)) then (IntKind.wrap .i64 (W.byt s.data.toList 1)) else (bif (decide (((s.size : Nat) : Int) > 1)) then (IntKind.wrap .i64 (Int.tdiv (IntKind.wrap .i64 (W.byt s.data.toList 1)) 16)) else 0)), .int .i64 (bif ((((R2.Format (IntKind.wrap .i64 (W.byt s.data.toList 0))) == 2) || ((R2.Format (IntKind.wrap .i64 (W.byt s.data.toList 0))) == 4)) || ((R2.Format (IntKind.wrap .i64 (W.byt s.data.toList 0))) == 5)) then 0 else (bif (decide (((s.size : Nat) : Int) > 1)) then (Int.tmod (IntKind.wrap .i64 (W.byt s.data.toList 1)) 16) else 0)), .int .i64 (-1), .int .i64 0, .int .u32 (R2.extend (W.byt s.data.toList 2)), .int .i64 ((s.size : Nat) : Int)]) = _; unfold R2.read; rw [hc13, cond_true], h.ch.bel (fun _ h => h.elim)⟩
  · skip
    refine E.C.seq ?_
    refine E.C.region ?_
    refine E.G.op (.bool ((R2.Format (IntKind.wrap .i64 (W.byt s.data.toList 0))) == 5)) (fun w => by kernel_rfl) (by kernel_rfl) ?_
    refine E.G.op (.bool ((R2.Format (IntKind.wrap .i64 (W.byt s.data.toList 0))) == 5)) (fun w => by kernel_rfl) (by kernel_rfl) ?_
    refine E.To.code ?_
    refine E.C.cond ((R2.Format (IntKind.wrap .i64 (W.byt s.data.toList 0))) == 5) (by kernel_rfl) (by kernel_rfl) (fun hc14 => ?_) (fun hc14 => ?_)
    · skip
      refine E.C.region ?_
      refine E.G.op (.string s) (fun w => by kernel_rfl) (by kernel_rfl) ?_
      refine E.G.val (.string (s.extract 2 s.size)) (by kernel_rfl) (fun w h => E.slFrom s .i64 2 (by kernel_rfl) (by kernel_rfl) (by kernel_rfl) (by first | (have hp := E.size_pos (by assumption); (try simp only [beq_iff_eq, bne_iff_ne, ne_eq, Bool.or_eq_true, Bool.and_eq_true, beq_eq_false_iff_ne, decide_eq_true_eq, decide_eq_false_iff_not, Bool.or_eq_false_iff, Bool.not_eq_true, gt_iff_lt] at *); omega) | ((try simp only [beq_iff_eq, bne_iff_ne, ne_eq, Bool.or_eq_true, Bool.and_eq_true, beq_eq_false_iff_ne, decide_eq_true_eq, decide_eq_false_iff_not, Bool.or_eq_false_iff, Bool.not_eq_true, gt_iff_lt] at *); omega)) (by first | (have hp := E.size_pos (by assumption); (try simp only [beq_iff_eq, bne_iff_ne, ne_eq, Bool.or_eq_true, Bool.and_eq_true, beq_eq_false_iff_ne, decide_eq_true_eq, decide_eq_false_iff_not, Bool.or_eq_false_iff, Bool.not_eq_true, gt_iff_lt] at *); omega) | ((try simp only [beq_iff_eq, bne_iff_ne, ne_eq, Bool.or_eq_true, Bool.and_eq_true, beq_eq_false_iff_ne, decide_eq_true_eq, decide_eq_false_iff_not, Bool.or_eq_false_iff, Bool.not_eq_true, gt_iff_lt] at *); omega)) w) ?_
      refine E.G.call (.int .u32 (R2.long (s.extract 2 s.size))) (fun w h => R2_long _ ((by rw [ByteArray.size_extract]; first | (have hp := E.size_pos (by assumption); (try simp only [beq_iff_eq, bne_iff_ne, ne_eq, Bool.or_eq_true, Bool.and_eq_true, beq_eq_false_iff_ne, decide_eq_true_eq, decide_eq_false_iff_not, Bool.or_eq_false_iff, Bool.not_eq_true, gt_iff_lt] at *); omega) | ((try simp only [beq_iff_eq, bne_iff_ne, ne_eq, Bool.or_eq_true, Bool.and_eq_true, beq_eq_false_iff_ne, decide_eq_true_eq, decide_eq_false_iff_not, Bool.or_eq_false_iff, Bool.not_eq_true, gt_iff_lt] at *); omega))) w) (fun w _ => by kernel_rfl) (by kernel_rfl) ?_
      refine E.G.op (.pointer (some ⟨g2, 5, none⟩)) (fun w => by kernel_rfl) (by kernel_rfl) ?_
      refine E.G.store 0 [.int .i64 (IntKind.wrap .i64 (W.byt s.data.toList 0)), .int .i64 (bif ((((R2.Format (IntKind.wrap .i64 (W.byt s.data.toList 0))) == 2) || ((R2.Format (IntKind.wrap .i64 (W.byt s.data.toList 0))) == 4)) || ((R2.Format (IntKind.wrap .i64 (W.byt s.data.toList 0))) == 5)) then (IntKind.wrap .i64 (W.byt s.data.toList 1)) else (bif (decide (((s.size : Nat) : Int) > 1)) then (IntKind.wrap .i64 (Int.tdiv (IntKind.wrap .i64 (W.byt s.data.toList 1)) 16)) else 0)), .int .i64 (bif ((((R2.Format (IntKind.wrap .i64 (W.byt s.data.toList 0))) == 2) || ((R2.Format (IntKind.wrap .i64 (W.byt s.data.toList 0))) == 4)) || ((R2.Format (IntKind.wrap .i64 (W.byt s.data.toList 0))) == 5)) then 0 else (bif (decide (((s.size : Nat) : Int) > 1)) then (Int.tmod (IntKind.wrap .i64 (W.byt s.data.toList 1)) 16) else 0)), .int .i64 (-1), .int .i64 0, .int .u32 (R2.long (s.extract 2 s.size)), .int .i64 ((s.size : Nat) : Int)] rfl rfl (by kernel_rfl) (by kernel_rfl) ?_
      refine E.P.nb (E.To.code ?_)
      refine E.C.weak [(2, .pointer (some ⟨g1, 0, none⟩)), (4, .pointer (some ⟨g2, 0, none⟩))] [(g2, [.int .i64 (IntKind.wrap .i64 (W.byt s.data.toList 0)), .int .i64 (bif ((((R2.Format (IntKind.wrap .i64 (W.byt s.data.toList 0))) == 2) || ((R2.Format (IntKind.wrap .i64 (W.byt s.data.toList 0))) == 4)) || ((R2.Format (IntKind.wrap .i64 (W.byt s.data.toList 0))) == 5)) then (IntKind.wrap .i64 (W.byt s.data.toList 1)) else (bif (decide (((s.size : Nat) : Int) > 1)) then (IntKind.wrap .i64 (Int.tdiv (IntKind.wrap .i64 (W.byt s.data.toList 1)) 16)) else 0)), .int .i64 (bif ((((R2.Format (IntKind.wrap .i64 (W.byt s.data.toList 0))) == 2) || ((R2.Format (IntKind.wrap .i64 (W.byt s.data.toList 0))) == 4)) || ((R2.Format (IntKind.wrap .i64 (W.byt s.data.toList 0))) == 5)) then 0 else (bif (decide (((s.size : Nat) : Int) > 1)) then (Int.tmod (IntKind.wrap .i64 (W.byt s.data.toList 1)) 16) else 0)), .int .i64 (-1), .int .i64 0, .int .u32 (R2.long (s.extract 2 s.size)), .int .i64 ((s.size : Nat) : Int)]), (g1, [.int .i64 0, .int .i64 0, .int .i64 0, .int .i64 0, .int .i64 0, .int .u32 0, .int .i64 0])] ⟨by kernel_rfl, by kernel_rfl⟩ (List.Sublist.refl _) ?_
      refine E.C.seq ?_
      refine E.C.region ?_
      refine E.G.val (.agg #[.int .i64 (IntKind.wrap .i64 (W.byt s.data.toList 0)), .int .i64 (bif ((((R2.Format (IntKind.wrap .i64 (W.byt s.data.toList 0))) == 2) || ((R2.Format (IntKind.wrap .i64 (W.byt s.data.toList 0))) == 4)) || ((R2.Format (IntKind.wrap .i64 (W.byt s.data.toList 0))) == 5)) then (IntKind.wrap .i64 (W.byt s.data.toList 1)) else (bif (decide (((s.size : Nat) : Int) > 1)) then (IntKind.wrap .i64 (Int.tdiv (IntKind.wrap .i64 (W.byt s.data.toList 1)) 16)) else 0)), .int .i64 (bif ((((R2.Format (IntKind.wrap .i64 (W.byt s.data.toList 0))) == 2) || ((R2.Format (IntKind.wrap .i64 (W.byt s.data.toList 0))) == 4)) || ((R2.Format (IntKind.wrap .i64 (W.byt s.data.toList 0))) == 5)) then 0 else (bif (decide (((s.size : Nat) : Int) > 1)) then (Int.tmod (IntKind.wrap .i64 (W.byt s.data.toList 1)) 16) else 0)), .int .i64 (-1), .int .i64 0, .int .u32 (R2.long (s.extract 2 s.size)), .int .i64 ((s.size : Nat) : Int)]) (by kernel_rfl) (fun w h => E.run_load h 0 rfl rfl (by kernel_rfl)) ?_
      refine E.G.store 1 [.int .i64 (IntKind.wrap .i64 (W.byt s.data.toList 0)), .int .i64 (bif ((((R2.Format (IntKind.wrap .i64 (W.byt s.data.toList 0))) == 2) || ((R2.Format (IntKind.wrap .i64 (W.byt s.data.toList 0))) == 4)) || ((R2.Format (IntKind.wrap .i64 (W.byt s.data.toList 0))) == 5)) then (IntKind.wrap .i64 (W.byt s.data.toList 1)) else (bif (decide (((s.size : Nat) : Int) > 1)) then (IntKind.wrap .i64 (Int.tdiv (IntKind.wrap .i64 (W.byt s.data.toList 1)) 16)) else 0)), .int .i64 (bif ((((R2.Format (IntKind.wrap .i64 (W.byt s.data.toList 0))) == 2) || ((R2.Format (IntKind.wrap .i64 (W.byt s.data.toList 0))) == 4)) || ((R2.Format (IntKind.wrap .i64 (W.byt s.data.toList 0))) == 5)) then 0 else (bif (decide (((s.size : Nat) : Int) > 1)) then (Int.tmod (IntKind.wrap .i64 (W.byt s.data.toList 1)) 16) else 0)), .int .i64 (-1), .int .i64 0, .int .u32 (R2.long (s.extract 2 s.size)), .int .i64 ((s.size : Nat) : Int)] rfl rfl (by kernel_rfl) (by kernel_rfl) ?_
      refine E.To.code ?_
      refine E.C.ret (E.To.body (fn := Try.f29) [.agg #[.int .i64 (IntKind.wrap .i64 (W.byt s.data.toList 0)), .int .i64 (bif ((((R2.Format (IntKind.wrap .i64 (W.byt s.data.toList 0))) == 2) || ((R2.Format (IntKind.wrap .i64 (W.byt s.data.toList 0))) == 4)) || ((R2.Format (IntKind.wrap .i64 (W.byt s.data.toList 0))) == 5)) then (IntKind.wrap .i64 (W.byt s.data.toList 1)) else (bif (decide (((s.size : Nat) : Int) > 1)) then (IntKind.wrap .i64 (Int.tdiv (IntKind.wrap .i64 (W.byt s.data.toList 1)) 16)) else 0)), .int .i64 (bif ((((R2.Format (IntKind.wrap .i64 (W.byt s.data.toList 0))) == 2) || ((R2.Format (IntKind.wrap .i64 (W.byt s.data.toList 0))) == 4)) || ((R2.Format (IntKind.wrap .i64 (W.byt s.data.toList 0))) == 5)) then 0 else (bif (decide (((s.size : Nat) : Int) > 1)) then (Int.tmod (IntKind.wrap .i64 (W.byt s.data.toList 1)) 16) else 0)), .int .i64 (-1), .int .i64 0, .int .u32 (R2.long (s.extract 2 s.size)), .int .i64 ((s.size : Nat) : Int)]] ?_ ?_)
      · exact ⟨⟨by kernel_rfl, _, _, 1, _, rfl, rfl, by kernel_rfl⟩, trivial⟩
      · intro w h
        exact ⟨by show Ending.returned (.agg #[.int .i64 (IntKind.wrap .i64 (W.byt s.data.toList 0)), .int .i64 (bif ((((R2.Format (IntKind.wrap .i64 (W.byt s.data.toList 0))) == 2) || ((R2.Format (IntKind.wrap .i64 (W.byt s.data.toList 0))) == 4)) || ((R2.Format (IntKind.wrap .i64 (W.byt s.data.toList 0))) == 5)) then (IntKind.wrap .i64 (W.byt s.data.toList 1)) else (bif (decide (((s.size : Nat) : Int) > 1)) then (IntKind.wrap .i64 (Int.tdiv (IntKind.wrap .i64 (W.byt s.data.toList 1)) 16)) else 0)), .int .i64 (bif ((((R2.Format (IntKind.wrap .i64 (W.byt s.data.toList 0))) == 2) || ((R2.Format (IntKind.wrap .i64 (W.byt s.data.toList 0))) == 4)) || ((R2.Format (IntKind.wrap .i64 (W.byt s.data.toList 0))) == 5)) then 0 else (bif (decide (((s.size : Nat) : Int) > 1)) then (Int.tmod (IntKind.wrap .i64 (W.byt s.data.toList 1)) 16) else 0)), .int .i64 (-1), .int .i64 0, .int .u32 (R2.long (s.extract 2 s.size)), .int .i64 ((s.size : Nat) : Int)]) = _; unfold R2.read; rw [hc13, cond_false, hc14, cond_true], h.ch.bel (fun _ h => h.elim)⟩
    · skip
      refine E.C.seq ?_
      refine E.C.region ?_
      refine E.G.op (.bool ((R2.Format (IntKind.wrap .i64 (W.byt s.data.toList 0))) == 7)) (fun w => by kernel_rfl) (by kernel_rfl) ?_
      refine E.G.op (.bool ((R2.Format (IntKind.wrap .i64 (W.byt s.data.toList 0))) == 7)) (fun w => by kernel_rfl) (by kernel_rfl) ?_
      refine E.To.code ?_
      refine E.C.cond ((R2.Format (IntKind.wrap .i64 (W.byt s.data.toList 0))) == 7) (by kernel_rfl) (by kernel_rfl) (fun hc15 => ?_) (fun hc15 => ?_)
      · skip
        refine E.C.seq ?_
        refine E.C.region ?_
        refine E.G.op (.string s) (fun w => by kernel_rfl) (by kernel_rfl) ?_
        refine E.G.val (.string (s.extract 3 s.size)) (by kernel_rfl) (fun w h => E.slFrom s .i64 3 (by kernel_rfl) (by kernel_rfl) (by kernel_rfl) (by first | (have hp := E.size_pos (by assumption); (try simp only [beq_iff_eq, bne_iff_ne, ne_eq, Bool.or_eq_true, Bool.and_eq_true, beq_eq_false_iff_ne, decide_eq_true_eq, decide_eq_false_iff_not, Bool.or_eq_false_iff, Bool.not_eq_true, gt_iff_lt] at *); omega) | ((try simp only [beq_iff_eq, bne_iff_ne, ne_eq, Bool.or_eq_true, Bool.and_eq_true, beq_eq_false_iff_ne, decide_eq_true_eq, decide_eq_false_iff_not, Bool.or_eq_false_iff, Bool.not_eq_true, gt_iff_lt] at *); omega)) (by first | (have hp := E.size_pos (by assumption); (try simp only [beq_iff_eq, bne_iff_ne, ne_eq, Bool.or_eq_true, Bool.and_eq_true, beq_eq_false_iff_ne, decide_eq_true_eq, decide_eq_false_iff_not, Bool.or_eq_false_iff, Bool.not_eq_true, gt_iff_lt] at *); omega) | ((try simp only [beq_iff_eq, bne_iff_ne, ne_eq, Bool.or_eq_true, Bool.and_eq_true, beq_eq_false_iff_ne, decide_eq_true_eq, decide_eq_false_iff_not, Bool.or_eq_false_iff, Bool.not_eq_true, gt_iff_lt] at *); omega)) w) ?_
        refine E.G.call (.int .u32 (R2.long (s.extract 3 s.size))) (fun w h => R2_long _ ((by rw [ByteArray.size_extract]; first | (have hp := E.size_pos (by assumption); (try simp only [beq_iff_eq, bne_iff_ne, ne_eq, Bool.or_eq_true, Bool.and_eq_true, beq_eq_false_iff_ne, decide_eq_true_eq, decide_eq_false_iff_not, Bool.or_eq_false_iff, Bool.not_eq_true, gt_iff_lt] at *); omega) | ((try simp only [beq_iff_eq, bne_iff_ne, ne_eq, Bool.or_eq_true, Bool.and_eq_true, beq_eq_false_iff_ne, decide_eq_true_eq, decide_eq_false_iff_not, Bool.or_eq_false_iff, Bool.not_eq_true, gt_iff_lt] at *); omega))) w) (fun w _ => by kernel_rfl) (by kernel_rfl) ?_
        refine E.G.op (.pointer (some ⟨g2, 5, none⟩)) (fun w => by kernel_rfl) (by kernel_rfl) ?_
        refine E.G.store 0 [.int .i64 (IntKind.wrap .i64 (W.byt s.data.toList 0)), .int .i64 (bif ((((R2.Format (IntKind.wrap .i64 (W.byt s.data.toList 0))) == 2) || ((R2.Format (IntKind.wrap .i64 (W.byt s.data.toList 0))) == 4)) || ((R2.Format (IntKind.wrap .i64 (W.byt s.data.toList 0))) == 5)) then (IntKind.wrap .i64 (W.byt s.data.toList 1)) else (bif (decide (((s.size : Nat) : Int) > 1)) then (IntKind.wrap .i64 (Int.tdiv (IntKind.wrap .i64 (W.byt s.data.toList 1)) 16)) else 0)), .int .i64 (bif ((((R2.Format (IntKind.wrap .i64 (W.byt s.data.toList 0))) == 2) || ((R2.Format (IntKind.wrap .i64 (W.byt s.data.toList 0))) == 4)) || ((R2.Format (IntKind.wrap .i64 (W.byt s.data.toList 0))) == 5)) then 0 else (bif (decide (((s.size : Nat) : Int) > 1)) then (Int.tmod (IntKind.wrap .i64 (W.byt s.data.toList 1)) 16) else 0)), .int .i64 (-1), .int .i64 0, .int .u32 (R2.long (s.extract 3 s.size)), .int .i64 ((s.size : Nat) : Int)] rfl rfl (by kernel_rfl) (by kernel_rfl) ?_
        refine E.To.code ?_
        refine E.C.weak [(0, .string s), (2, .pointer (some ⟨g1, 0, none⟩)), (4, .pointer (some ⟨g2, 0, none⟩))] [(g2, [.int .i64 (IntKind.wrap .i64 (W.byt s.data.toList 0)), .int .i64 (bif ((((R2.Format (IntKind.wrap .i64 (W.byt s.data.toList 0))) == 2) || ((R2.Format (IntKind.wrap .i64 (W.byt s.data.toList 0))) == 4)) || ((R2.Format (IntKind.wrap .i64 (W.byt s.data.toList 0))) == 5)) then (IntKind.wrap .i64 (W.byt s.data.toList 1)) else (bif (decide (((s.size : Nat) : Int) > 1)) then (IntKind.wrap .i64 (Int.tdiv (IntKind.wrap .i64 (W.byt s.data.toList 1)) 16)) else 0)), .int .i64 (bif ((((R2.Format (IntKind.wrap .i64 (W.byt s.data.toList 0))) == 2) || ((R2.Format (IntKind.wrap .i64 (W.byt s.data.toList 0))) == 4)) || ((R2.Format (IntKind.wrap .i64 (W.byt s.data.toList 0))) == 5)) then 0 else (bif (decide (((s.size : Nat) : Int) > 1)) then (Int.tmod (IntKind.wrap .i64 (W.byt s.data.toList 1)) 16) else 0)), .int .i64 (-1), .int .i64 0, .int .u32 (R2.long (s.extract 3 s.size)), .int .i64 ((s.size : Nat) : Int)]), (g1, [.int .i64 0, .int .i64 0, .int .i64 0, .int .i64 0, .int .i64 0, .int .u32 0, .int .i64 0])] ⟨by kernel_rfl, by kernel_rfl⟩ (List.Sublist.refl _) ?_
        refine E.C.seq ?_
        refine E.C.region ?_
        refine E.G.op (.string s) (fun w => by kernel_rfl) (by kernel_rfl) ?_
        refine E.G.val (.int .u8 (W.byt s.data.toList 2)) (by kernel_rfl) (fun w h => E.sidx s .i64 2 (by kernel_rfl) (by kernel_rfl) (by kernel_rfl) (by first | (have hp := E.size_pos (by assumption); (try simp only [beq_iff_eq, bne_iff_ne, ne_eq, Bool.or_eq_true, Bool.and_eq_true, beq_eq_false_iff_ne, decide_eq_true_eq, decide_eq_false_iff_not, Bool.or_eq_false_iff, Bool.not_eq_true, gt_iff_lt] at *); omega) | ((try simp only [beq_iff_eq, bne_iff_ne, ne_eq, Bool.or_eq_true, Bool.and_eq_true, beq_eq_false_iff_ne, decide_eq_true_eq, decide_eq_false_iff_not, Bool.or_eq_false_iff, Bool.not_eq_true, gt_iff_lt] at *); omega)) (by first | (have hp := E.size_pos (by assumption); (try simp only [beq_iff_eq, bne_iff_ne, ne_eq, Bool.or_eq_true, Bool.and_eq_true, beq_eq_false_iff_ne, decide_eq_true_eq, decide_eq_false_iff_not, Bool.or_eq_false_iff, Bool.not_eq_true, gt_iff_lt] at *); omega) | ((try simp only [beq_iff_eq, bne_iff_ne, ne_eq, Bool.or_eq_true, Bool.and_eq_true, beq_eq_false_iff_ne, decide_eq_true_eq, decide_eq_false_iff_not, Bool.or_eq_false_iff, Bool.not_eq_true, gt_iff_lt] at *); omega)) w) ?_
        refine E.G.op (.bool ((W.byt s.data.toList 2) != 8)) (fun w => by kernel_rfl) (by kernel_rfl) ?_
        refine E.To.code ?_
        refine E.C.cond ((W.byt s.data.toList 2) != 8) (by kernel_rfl) (by kernel_rfl) (fun hc16 => ?_) (fun hc16 => ?_)
        · skip
          refine E.C.seq ?_
          refine E.C.region ?_
          refine E.G.op (.string s) (fun w => by kernel_rfl) (by kernel_rfl) ?_
          refine E.G.val (.int .u8 (W.byt s.data.toList 2)) (by kernel_rfl) (fun w h => E.sidx s .i64 2 (by kernel_rfl) (by kernel_rfl) (by kernel_rfl) (by first | (have hp := E.size_pos (by assumption); (try simp only [beq_iff_eq, bne_iff_ne, ne_eq, Bool.or_eq_true, Bool.and_eq_true, beq_eq_false_iff_ne, decide_eq_true_eq, decide_eq_false_iff_not, Bool.or_eq_false_iff, Bool.not_eq_true, gt_iff_lt] at *); omega) | ((try simp only [beq_iff_eq, bne_iff_ne, ne_eq, Bool.or_eq_true, Bool.and_eq_true, beq_eq_false_iff_ne, decide_eq_true_eq, decide_eq_false_iff_not, Bool.or_eq_false_iff, Bool.not_eq_true, gt_iff_lt] at *); omega)) (by first | (have hp := E.size_pos (by assumption); (try simp only [beq_iff_eq, bne_iff_ne, ne_eq, Bool.or_eq_true, Bool.and_eq_true, beq_eq_false_iff_ne, decide_eq_true_eq, decide_eq_false_iff_not, Bool.or_eq_false_iff, Bool.not_eq_true, gt_iff_lt] at *); omega) | ((try simp only [beq_iff_eq, bne_iff_ne, ne_eq, Bool.or_eq_true, Bool.and_eq_true, beq_eq_false_iff_ne, decide_eq_true_eq, decide_eq_false_iff_not, Bool.or_eq_false_iff, Bool.not_eq_true, gt_iff_lt] at *); omega)) w) ?_
          refine E.G.op (.int .i64 (IntKind.wrap .i64 (W.byt s.data.toList 2))) (fun w => by kernel_rfl) (by kernel_rfl) ?_
          refine E.G.op (.int .i64 (Int.tmod (IntKind.wrap .i64 (W.byt s.data.toList 2)) 16)) (fun w => by kernel_rfl) (by kernel_rfl) ?_
          refine E.G.op (.pointer (some ⟨g2, 3, none⟩)) (fun w => by kernel_rfl) (by kernel_rfl) ?_
          refine E.G.store 0 [.int .i64 (IntKind.wrap .i64 (W.byt s.data.toList 0)), .int .i64 (bif ((((R2.Format (IntKind.wrap .i64 (W.byt s.data.toList 0))) == 2) || ((R2.Format (IntKind.wrap .i64 (W.byt s.data.toList 0))) == 4)) || ((R2.Format (IntKind.wrap .i64 (W.byt s.data.toList 0))) == 5)) then (IntKind.wrap .i64 (W.byt s.data.toList 1)) else (bif (decide (((s.size : Nat) : Int) > 1)) then (IntKind.wrap .i64 (Int.tdiv (IntKind.wrap .i64 (W.byt s.data.toList 1)) 16)) else 0)), .int .i64 (bif ((((R2.Format (IntKind.wrap .i64 (W.byt s.data.toList 0))) == 2) || ((R2.Format (IntKind.wrap .i64 (W.byt s.data.toList 0))) == 4)) || ((R2.Format (IntKind.wrap .i64 (W.byt s.data.toList 0))) == 5)) then 0 else (bif (decide (((s.size : Nat) : Int) > 1)) then (Int.tmod (IntKind.wrap .i64 (W.byt s.data.toList 1)) 16) else 0)), .int .i64 (Int.tmod (IntKind.wrap .i64 (W.byt s.data.toList 2)) 16), .int .i64 0, .int .u32 (R2.long (s.extract 3 s.size)), .int .i64 ((s.size : Nat) : Int)] rfl rfl (by kernel_rfl) (by kernel_rfl) ?_
          refine E.To.code ?_
          refine E.C.weak [(0, .string s), (2, .pointer (some ⟨g1, 0, none⟩)), (4, .pointer (some ⟨g2, 0, none⟩))] [(g2, [.int .i64 (IntKind.wrap .i64 (W.byt s.data.toList 0)), .int .i64 (bif ((((R2.Format (IntKind.wrap .i64 (W.byt s.data.toList 0))) == 2) || ((R2.Format (IntKind.wrap .i64 (W.byt s.data.toList 0))) == 4)) || ((R2.Format (IntKind.wrap .i64 (W.byt s.data.toList 0))) == 5)) then (IntKind.wrap .i64 (W.byt s.data.toList 1)) else (bif (decide (((s.size : Nat) : Int) > 1)) then (IntKind.wrap .i64 (Int.tdiv (IntKind.wrap .i64 (W.byt s.data.toList 1)) 16)) else 0)), .int .i64 (bif ((((R2.Format (IntKind.wrap .i64 (W.byt s.data.toList 0))) == 2) || ((R2.Format (IntKind.wrap .i64 (W.byt s.data.toList 0))) == 4)) || ((R2.Format (IntKind.wrap .i64 (W.byt s.data.toList 0))) == 5)) then 0 else (bif (decide (((s.size : Nat) : Int) > 1)) then (Int.tmod (IntKind.wrap .i64 (W.byt s.data.toList 1)) 16) else 0)), .int .i64 (Int.tmod (IntKind.wrap .i64 (W.byt s.data.toList 2)) 16), .int .i64 0, .int .u32 (R2.long (s.extract 3 s.size)), .int .i64 ((s.size : Nat) : Int)]), (g1, [.int .i64 0, .int .i64 0, .int .i64 0, .int .i64 0, .int .i64 0, .int .u32 0, .int .i64 0])] ⟨by kernel_rfl, by kernel_rfl⟩ (List.Sublist.refl _) ?_
          refine E.C.region ?_
          refine E.G.op (.string s) (fun w => by kernel_rfl) (by kernel_rfl) ?_
          refine E.G.val (.int .u8 (W.byt s.data.toList 2)) (by kernel_rfl) (fun w h => E.sidx s .i64 2 (by kernel_rfl) (by kernel_rfl) (by kernel_rfl) (by first | (have hp := E.size_pos (by assumption); (try simp only [beq_iff_eq, bne_iff_ne, ne_eq, Bool.or_eq_true, Bool.and_eq_true, beq_eq_false_iff_ne, decide_eq_true_eq, decide_eq_false_iff_not, Bool.or_eq_false_iff, Bool.not_eq_true, gt_iff_lt] at *); omega) | ((try simp only [beq_iff_eq, bne_iff_ne, ne_eq, Bool.or_eq_true, Bool.and_eq_true, beq_eq_false_iff_ne, decide_eq_true_eq, decide_eq_false_iff_not, Bool.or_eq_false_iff, Bool.not_eq_true, gt_iff_lt] at *); omega)) (by first | (have hp := E.size_pos (by assumption); (try simp only [beq_iff_eq, bne_iff_ne, ne_eq, Bool.or_eq_true, Bool.and_eq_true, beq_eq_false_iff_ne, decide_eq_true_eq, decide_eq_false_iff_not, Bool.or_eq_false_iff, Bool.not_eq_true, gt_iff_lt] at *); omega) | ((try simp only [beq_iff_eq, bne_iff_ne, ne_eq, Bool.or_eq_true, Bool.and_eq_true, beq_eq_false_iff_ne, decide_eq_true_eq, decide_eq_false_iff_not, Bool.or_eq_false_iff, Bool.not_eq_true, gt_iff_lt] at *); omega)) w) ?_
          refine E.G.op (.int .i64 (IntKind.wrap .i64 (W.byt s.data.toList 2))) (fun w => by kernel_rfl) (by kernel_rfl) ?_
          refine E.G.op (.int .i64 (IntKind.wrap .i64 (Int.tdiv (IntKind.wrap .i64 (W.byt s.data.toList 2)) 16))) (fun w => by kernel_rfl) (by kernel_rfl) ?_
          refine E.G.op (.pointer (some ⟨g2, 4, none⟩)) (fun w => by kernel_rfl) (by kernel_rfl) ?_
          refine E.G.store 0 [.int .i64 (IntKind.wrap .i64 (W.byt s.data.toList 0)), .int .i64 (bif ((((R2.Format (IntKind.wrap .i64 (W.byt s.data.toList 0))) == 2) || ((R2.Format (IntKind.wrap .i64 (W.byt s.data.toList 0))) == 4)) || ((R2.Format (IntKind.wrap .i64 (W.byt s.data.toList 0))) == 5)) then (IntKind.wrap .i64 (W.byt s.data.toList 1)) else (bif (decide (((s.size : Nat) : Int) > 1)) then (IntKind.wrap .i64 (Int.tdiv (IntKind.wrap .i64 (W.byt s.data.toList 1)) 16)) else 0)), .int .i64 (bif ((((R2.Format (IntKind.wrap .i64 (W.byt s.data.toList 0))) == 2) || ((R2.Format (IntKind.wrap .i64 (W.byt s.data.toList 0))) == 4)) || ((R2.Format (IntKind.wrap .i64 (W.byt s.data.toList 0))) == 5)) then 0 else (bif (decide (((s.size : Nat) : Int) > 1)) then (Int.tmod (IntKind.wrap .i64 (W.byt s.data.toList 1)) 16) else 0)), .int .i64 (Int.tmod (IntKind.wrap .i64 (W.byt s.data.toList 2)) 16), .int .i64 (IntKind.wrap .i64 (Int.tdiv (IntKind.wrap .i64 (W.byt s.data.toList 2)) 16)), .int .u32 (R2.long (s.extract 3 s.size)), .int .i64 ((s.size : Nat) : Int)] rfl rfl (by kernel_rfl) (by kernel_rfl) ?_
          refine E.P.nb (E.To.code ?_)
          refine E.C.seq ?_
          refine E.C.region ?_
          refine E.G.val (.agg #[.int .i64 (IntKind.wrap .i64 (W.byt s.data.toList 0)), .int .i64 (bif ((((R2.Format (IntKind.wrap .i64 (W.byt s.data.toList 0))) == 2) || ((R2.Format (IntKind.wrap .i64 (W.byt s.data.toList 0))) == 4)) || ((R2.Format (IntKind.wrap .i64 (W.byt s.data.toList 0))) == 5)) then (IntKind.wrap .i64 (W.byt s.data.toList 1)) else (bif (decide (((s.size : Nat) : Int) > 1)) then (IntKind.wrap .i64 (Int.tdiv (IntKind.wrap .i64 (W.byt s.data.toList 1)) 16)) else 0)), .int .i64 (bif ((((R2.Format (IntKind.wrap .i64 (W.byt s.data.toList 0))) == 2) || ((R2.Format (IntKind.wrap .i64 (W.byt s.data.toList 0))) == 4)) || ((R2.Format (IntKind.wrap .i64 (W.byt s.data.toList 0))) == 5)) then 0 else (bif (decide (((s.size : Nat) : Int) > 1)) then (Int.tmod (IntKind.wrap .i64 (W.byt s.data.toList 1)) 16) else 0)), .int .i64 (Int.tmod (IntKind.wrap .i64 (W.byt s.data.toList 2)) 16), .int .i64 (IntKind.wrap .i64 (Int.tdiv (IntKind.wrap .i64 (W.byt s.data.toList 2)) 16)), .int .u32 (R2.long (s.extract 3 s.size)), .int .i64 ((s.size : Nat) : Int)]) (by kernel_rfl) (fun w h => E.run_load h 0 rfl rfl (by kernel_rfl)) ?_
          refine E.G.store 1 [.int .i64 (IntKind.wrap .i64 (W.byt s.data.toList 0)), .int .i64 (bif ((((R2.Format (IntKind.wrap .i64 (W.byt s.data.toList 0))) == 2) || ((R2.Format (IntKind.wrap .i64 (W.byt s.data.toList 0))) == 4)) || ((R2.Format (IntKind.wrap .i64 (W.byt s.data.toList 0))) == 5)) then (IntKind.wrap .i64 (W.byt s.data.toList 1)) else (bif (decide (((s.size : Nat) : Int) > 1)) then (IntKind.wrap .i64 (Int.tdiv (IntKind.wrap .i64 (W.byt s.data.toList 1)) 16)) else 0)), .int .i64 (bif ((((R2.Format (IntKind.wrap .i64 (W.byt s.data.toList 0))) == 2) || ((R2.Format (IntKind.wrap .i64 (W.byt s.data.toList 0))) == 4)) || ((R2.Format (IntKind.wrap .i64 (W.byt s.data.toList 0))) == 5)) then 0 else (bif (decide (((s.size : Nat) : Int) > 1)) then (Int.tmod (IntKind.wrap .i64 (W.byt s.data.toList 1)) 16) else 0)), .int .i64 (Int.tmod (IntKind.wrap .i64 (W.byt s.data.toList 2)) 16), .int .i64 (IntKind.wrap .i64 (Int.tdiv (IntKind.wrap .i64 (W.byt s.data.toList 2)) 16)), .int .u32 (R2.long (s.extract 3 s.size)), .int .i64 ((s.size : Nat) : Int)] rfl rfl (by kernel_rfl) (by kernel_rfl) ?_
          refine E.To.code ?_
          refine E.C.weak [(2, .pointer (some ⟨g1, 0, none⟩))] [(g1, [.int .i64 (IntKind.wrap .i64 (W.byt s.data.toList 0)), .int .i64 (bif ((((R2.Format (IntKind.wrap .i64 (W.byt s.data.toList 0))) == 2) || ((R2.Format (IntKind.wrap .i64 (W.byt s.data.toList 0))) == 4)) || ((R2.Format (IntKind.wrap .i64 (W.byt s.data.toList 0))) == 5)) then (IntKind.wrap .i64 (W.byt s.data.toList 1)) else (bif (decide (((s.size : Nat) : Int) > 1)) then (IntKind.wrap .i64 (Int.tdiv (IntKind.wrap .i64 (W.byt s.data.toList 1)) 16)) else 0)), .int .i64 (bif ((((R2.Format (IntKind.wrap .i64 (W.byt s.data.toList 0))) == 2) || ((R2.Format (IntKind.wrap .i64 (W.byt s.data.toList 0))) == 4)) || ((R2.Format (IntKind.wrap .i64 (W.byt s.data.toList 0))) == 5)) then 0 else (bif (decide (((s.size : Nat) : Int) > 1)) then (Int.tmod (IntKind.wrap .i64 (W.byt s.data.toList 1)) 16) else 0)), .int .i64 (Int.tmod (IntKind.wrap .i64 (W.byt s.data.toList 2)) 16), .int .i64 (IntKind.wrap .i64 (Int.tdiv (IntKind.wrap .i64 (W.byt s.data.toList 2)) 16)), .int .u32 (R2.long (s.extract 3 s.size)), .int .i64 ((s.size : Nat) : Int)])] ⟨by kernel_rfl, by kernel_rfl⟩ (List.Sublist.cons _ (List.Sublist.refl _)) ?_
          refine E.C.ret (E.To.body (fn := Try.f29) [.agg #[.int .i64 (IntKind.wrap .i64 (W.byt s.data.toList 0)), .int .i64 (bif ((((R2.Format (IntKind.wrap .i64 (W.byt s.data.toList 0))) == 2) || ((R2.Format (IntKind.wrap .i64 (W.byt s.data.toList 0))) == 4)) || ((R2.Format (IntKind.wrap .i64 (W.byt s.data.toList 0))) == 5)) then (IntKind.wrap .i64 (W.byt s.data.toList 1)) else (bif (decide (((s.size : Nat) : Int) > 1)) then (IntKind.wrap .i64 (Int.tdiv (IntKind.wrap .i64 (W.byt s.data.toList 1)) 16)) else 0)), .int .i64 (bif ((((R2.Format (IntKind.wrap .i64 (W.byt s.data.toList 0))) == 2) || ((R2.Format (IntKind.wrap .i64 (W.byt s.data.toList 0))) == 4)) || ((R2.Format (IntKind.wrap .i64 (W.byt s.data.toList 0))) == 5)) then 0 else (bif (decide (((s.size : Nat) : Int) > 1)) then (Int.tmod (IntKind.wrap .i64 (W.byt s.data.toList 1)) 16) else 0)), .int .i64 (Int.tmod (IntKind.wrap .i64 (W.byt s.data.toList 2)) 16), .int .i64 (IntKind.wrap .i64 (Int.tdiv (IntKind.wrap .i64 (W.byt s.data.toList 2)) 16)), .int .u32 (R2.long (s.extract 3 s.size)), .int .i64 ((s.size : Nat) : Int)]] ?_ ?_)
          · exact ⟨⟨by kernel_rfl, _, _, 0, _, rfl, rfl, by kernel_rfl⟩, trivial⟩
          · intro w h
            exact ⟨by show Ending.returned (.agg #[.int .i64 (IntKind.wrap .i64 (W.byt s.data.toList 0)), .int .i64 (bif ((((R2.Format (IntKind.wrap .i64 (W.byt s.data.toList 0))) == 2) || ((R2.Format (IntKind.wrap .i64 (W.byt s.data.toList 0))) == 4)) || ((R2.Format (IntKind.wrap .i64 (W.byt s.data.toList 0))) == 5)) then (IntKind.wrap .i64 (W.byt s.data.toList 1)) else (bif (decide (((s.size : Nat) : Int) > 1)) then (IntKind.wrap .i64 (Int.tdiv (IntKind.wrap .i64 (W.byt s.data.toList 1)) 16)) else 0)), .int .i64 (bif ((((R2.Format (IntKind.wrap .i64 (W.byt s.data.toList 0))) == 2) || ((R2.Format (IntKind.wrap .i64 (W.byt s.data.toList 0))) == 4)) || ((R2.Format (IntKind.wrap .i64 (W.byt s.data.toList 0))) == 5)) then 0 else (bif (decide (((s.size : Nat) : Int) > 1)) then (Int.tmod (IntKind.wrap .i64 (W.byt s.data.toList 1)) 16) else 0)), .int .i64 (Int.tmod (IntKind.wrap .i64 (W.byt s.data.toList 2)) 16), .int .i64 (IntKind.wrap .i64 (Int.tdiv (IntKind.wrap .i64 (W.byt s.data.toList 2)) 16)), .int .u32 (R2.long (s.extract 3 s.size)), .int .i64 ((s.size : Nat) : Int)]) = _; unfold R2.read; rw [hc13, cond_false, hc14, cond_false, hc15, cond_true, hc16, cond_true], h.ch.bel (fun _ h => h.elim)⟩
        · skip
          refine E.C.skip (E.P.nb (E.To.code ?_))
          refine E.C.seq ?_
          refine E.C.region ?_
          refine E.G.val (.agg #[.int .i64 (IntKind.wrap .i64 (W.byt s.data.toList 0)), .int .i64 (bif ((((R2.Format (IntKind.wrap .i64 (W.byt s.data.toList 0))) == 2) || ((R2.Format (IntKind.wrap .i64 (W.byt s.data.toList 0))) == 4)) || ((R2.Format (IntKind.wrap .i64 (W.byt s.data.toList 0))) == 5)) then (IntKind.wrap .i64 (W.byt s.data.toList 1)) else (bif (decide (((s.size : Nat) : Int) > 1)) then (IntKind.wrap .i64 (Int.tdiv (IntKind.wrap .i64 (W.byt s.data.toList 1)) 16)) else 0)), .int .i64 (bif ((((R2.Format (IntKind.wrap .i64 (W.byt s.data.toList 0))) == 2) || ((R2.Format (IntKind.wrap .i64 (W.byt s.data.toList 0))) == 4)) || ((R2.Format (IntKind.wrap .i64 (W.byt s.data.toList 0))) == 5)) then 0 else (bif (decide (((s.size : Nat) : Int) > 1)) then (Int.tmod (IntKind.wrap .i64 (W.byt s.data.toList 1)) 16) else 0)), .int .i64 (-1), .int .i64 0, .int .u32 (R2.long (s.extract 3 s.size)), .int .i64 ((s.size : Nat) : Int)]) (by kernel_rfl) (fun w h => E.run_load h 0 rfl rfl (by kernel_rfl)) ?_
          refine E.G.store 1 [.int .i64 (IntKind.wrap .i64 (W.byt s.data.toList 0)), .int .i64 (bif ((((R2.Format (IntKind.wrap .i64 (W.byt s.data.toList 0))) == 2) || ((R2.Format (IntKind.wrap .i64 (W.byt s.data.toList 0))) == 4)) || ((R2.Format (IntKind.wrap .i64 (W.byt s.data.toList 0))) == 5)) then (IntKind.wrap .i64 (W.byt s.data.toList 1)) else (bif (decide (((s.size : Nat) : Int) > 1)) then (IntKind.wrap .i64 (Int.tdiv (IntKind.wrap .i64 (W.byt s.data.toList 1)) 16)) else 0)), .int .i64 (bif ((((R2.Format (IntKind.wrap .i64 (W.byt s.data.toList 0))) == 2) || ((R2.Format (IntKind.wrap .i64 (W.byt s.data.toList 0))) == 4)) || ((R2.Format (IntKind.wrap .i64 (W.byt s.data.toList 0))) == 5)) then 0 else (bif (decide (((s.size : Nat) : Int) > 1)) then (Int.tmod (IntKind.wrap .i64 (W.byt s.data.toList 1)) 16) else 0)), .int .i64 (-1), .int .i64 0, .int .u32 (R2.long (s.extract 3 s.size)), .int .i64 ((s.size : Nat) : Int)] rfl rfl (by kernel_rfl) (by kernel_rfl) ?_
          refine E.To.code ?_
          refine E.C.ret (E.To.body (fn := Try.f29) [.agg #[.int .i64 (IntKind.wrap .i64 (W.byt s.data.toList 0)), .int .i64 (bif ((((R2.Format (IntKind.wrap .i64 (W.byt s.data.toList 0))) == 2) || ((R2.Format (IntKind.wrap .i64 (W.byt s.data.toList 0))) == 4)) || ((R2.Format (IntKind.wrap .i64 (W.byt s.data.toList 0))) == 5)) then (IntKind.wrap .i64 (W.byt s.data.toList 1)) else (bif (decide (((s.size : Nat) : Int) > 1)) then (IntKind.wrap .i64 (Int.tdiv (IntKind.wrap .i64 (W.byt s.data.toList 1)) 16)) else 0)), .int .i64 (bif ((((R2.Format (IntKind.wrap .i64 (W.byt s.data.toList 0))) == 2) || ((R2.Format (IntKind.wrap .i64 (W.byt s.data.toList 0))) == 4)) || ((R2.Format (IntKind.wrap .i64 (W.byt s.data.toList 0))) == 5)) then 0 else (bif (decide (((s.size : Nat) : Int) > 1)) then (Int.tmod (IntKind.wrap .i64 (W.byt s.data.toList 1)) 16) else 0)), .int .i64 (-1), .int .i64 0, .int .u32 (R2.long (s.extract 3 s.size)), .int .i64 ((s.size : Nat) : Int)]] ?_ ?_)
          · exact ⟨⟨by kernel_rfl, _, _, 1, _, rfl, rfl, by kernel_rfl⟩, trivial⟩
          · intro w h
            exact ⟨by show Ending.returned (.agg #[.int .i64 (IntKind.wrap .i64 (W.byt s.data.toList 0)), .int .i64 (bif ((((R2.Format (IntKind.wrap .i64 (W.byt s.data.toList 0))) == 2) || ((R2.Format (IntKind.wrap .i64 (W.byt s.data.toList 0))) == 4)) || ((R2.Format (IntKind.wrap .i64 (W.byt s.data.toList 0))) == 5)) then (IntKind.wrap .i64 (W.byt s.data.toList 1)) else (bif (decide (((s.size : Nat) : Int) > 1)) then (IntKind.wrap .i64 (Int.tdiv (IntKind.wrap .i64 (W.byt s.data.toList 1)) 16)) else 0)), .int .i64 (bif ((((R2.Format (IntKind.wrap .i64 (W.byt s.data.toList 0))) == 2) || ((R2.Format (IntKind.wrap .i64 (W.byt s.data.toList 0))) == 4)) || ((R2.Format (IntKind.wrap .i64 (W.byt s.data.toList 0))) == 5)) then 0 else (bif (decide (((s.size : Nat) : Int) > 1)) then (Int.tmod (IntKind.wrap .i64 (W.byt s.data.toList 1)) 16) else 0)), .int .i64 (-1), .int .i64 0, .int .u32 (R2.long (s.extract 3 s.size)), .int .i64 ((s.size : Nat) : Int)]) = _; unfold R2.read; rw [hc13, cond_false, hc14, cond_false, hc15, cond_true, hc16, cond_false], h.ch.bel (fun _ h => h.elim)⟩
      · skip
        refine E.C.seq ?_
        refine E.C.seq ?_
        refine E.C.region ?_
        refine E.G.op (.bool ((R2.Format (IntKind.wrap .i64 (W.byt s.data.toList 0))) == 8)) (fun w => by kernel_rfl) (by kernel_rfl) ?_
        refine E.G.op (.bool ((R2.Format (IntKind.wrap .i64 (W.byt s.data.toList 0))) == 8)) (fun w => by kernel_rfl) (by kernel_rfl) ?_
        refine E.To.code ?_
        refine E.C.thencut [(0, .string s), (2, .pointer (some ⟨g1, 0, none⟩)), (3, .int .i64 (R2.Format (IntKind.wrap .i64 (W.byt s.data.toList 0)))), (4, .pointer (some ⟨g2, 0, none⟩)), (76, .bool (((R2.Format (IntKind.wrap .i64 (W.byt s.data.toList 0))) == 8) || (((R2.Format (IntKind.wrap .i64 (W.byt s.data.toList 0))) == 10) || ((R2.Format (IntKind.wrap .i64 (W.byt s.data.toList 0))) == 9))))] (fun _ => True) [(g2, [.int .i64 (IntKind.wrap .i64 (W.byt s.data.toList 0)), .int .i64 (bif ((((R2.Format (IntKind.wrap .i64 (W.byt s.data.toList 0))) == 2) || ((R2.Format (IntKind.wrap .i64 (W.byt s.data.toList 0))) == 4)) || ((R2.Format (IntKind.wrap .i64 (W.byt s.data.toList 0))) == 5)) then (IntKind.wrap .i64 (W.byt s.data.toList 1)) else (bif (decide (((s.size : Nat) : Int) > 1)) then (IntKind.wrap .i64 (Int.tdiv (IntKind.wrap .i64 (W.byt s.data.toList 1)) 16)) else 0)), .int .i64 (bif ((((R2.Format (IntKind.wrap .i64 (W.byt s.data.toList 0))) == 2) || ((R2.Format (IntKind.wrap .i64 (W.byt s.data.toList 0))) == 4)) || ((R2.Format (IntKind.wrap .i64 (W.byt s.data.toList 0))) == 5)) then 0 else (bif (decide (((s.size : Nat) : Int) > 1)) then (Int.tmod (IntKind.wrap .i64 (W.byt s.data.toList 1)) 16) else 0)), .int .i64 (-1), .int .i64 0, .int .u32 0, .int .i64 ((s.size : Nat) : Int)]), (g1, [.int .i64 0, .int .i64 0, .int .i64 0, .int .i64 0, .int .i64 0, .int .u32 0, .int .i64 0])] ?_ ?_
        · skip
          generalize hc17 : ((R2.Format (IntKind.wrap .i64 (W.byt s.data.toList 0))) == 8) = b18
          cases b18
          · skip
            refine E.C.condF (by kernel_rfl) (by kernel_rfl) ?_
            refine E.C.seq ?_
            refine E.C.region ?_
            refine E.G.op (.bool ((R2.Format (IntKind.wrap .i64 (W.byt s.data.toList 0))) == 10)) (fun w => by kernel_rfl) (by kernel_rfl) ?_
            refine E.G.op (.bool ((R2.Format (IntKind.wrap .i64 (W.byt s.data.toList 0))) == 10)) (fun w => by kernel_rfl) (by kernel_rfl) ?_
            refine E.To.code ?_
            generalize hc19 : ((R2.Format (IntKind.wrap .i64 (W.byt s.data.toList 0))) == 10) = b20
            cases b20
            · skip
              refine E.C.condF (by kernel_rfl) (by kernel_rfl) ?_
              refine E.C.region ?_
              refine E.G.op (.bool ((R2.Format (IntKind.wrap .i64 (W.byt s.data.toList 0))) == 9)) (fun w => by kernel_rfl) (by kernel_rfl) ?_
              refine E.G.op (.bool ((R2.Format (IntKind.wrap .i64 (W.byt s.data.toList 0))) == 9)) (fun w => by kernel_rfl) (by kernel_rfl) ?_
              exact E.To.pst ⟨by kernel_rfl, by kernel_rfl⟩ (List.Sublist.refl _) (fun _ h => h)
            · skip
              refine E.C.condT (by kernel_rfl) (by kernel_rfl) ?_
              exact E.C.skip (E.To.pst ⟨by kernel_rfl, by kernel_rfl⟩ (List.Sublist.refl _) (fun _ h => h))
          · skip
            refine E.C.condT (by kernel_rfl) (by kernel_rfl) ?_
            exact E.C.skip (E.To.pst ⟨by kernel_rfl, by kernel_rfl⟩ (List.Sublist.refl _) (fun _ h => h))
        refine E.C.cond (((R2.Format (IntKind.wrap .i64 (W.byt s.data.toList 0))) == 8) || (((R2.Format (IntKind.wrap .i64 (W.byt s.data.toList 0))) == 10) || ((R2.Format (IntKind.wrap .i64 (W.byt s.data.toList 0))) == 9))) (by kernel_rfl) (by kernel_rfl) (fun hc21 => ?_) (fun hc21 => ?_)
        · skip
          refine E.C.seq ?_
          refine E.C.region ?_
          refine E.G.op (.pointer (some ⟨g2, 1, none⟩)) (fun w => by kernel_rfl) (by kernel_rfl) ?_
          refine E.G.store 0 [.int .i64 (IntKind.wrap .i64 (W.byt s.data.toList 0)), .int .i64 0, .int .i64 (bif ((((R2.Format (IntKind.wrap .i64 (W.byt s.data.toList 0))) == 2) || ((R2.Format (IntKind.wrap .i64 (W.byt s.data.toList 0))) == 4)) || ((R2.Format (IntKind.wrap .i64 (W.byt s.data.toList 0))) == 5)) then 0 else (bif (decide (((s.size : Nat) : Int) > 1)) then (Int.tmod (IntKind.wrap .i64 (W.byt s.data.toList 1)) 16) else 0)), .int .i64 (-1), .int .i64 0, .int .u32 0, .int .i64 ((s.size : Nat) : Int)] rfl rfl (by kernel_rfl) (by kernel_rfl) ?_
          refine E.To.code ?_
          refine E.C.seq ?_
          refine E.C.region ?_
          refine E.G.op (.pointer (some ⟨g2, 2, none⟩)) (fun w => by kernel_rfl) (by kernel_rfl) ?_
          refine E.G.store 0 [.int .i64 (IntKind.wrap .i64 (W.byt s.data.toList 0)), .int .i64 0, .int .i64 0, .int .i64 (-1), .int .i64 0, .int .u32 0, .int .i64 ((s.size : Nat) : Int)] rfl rfl (by kernel_rfl) (by kernel_rfl) ?_
          refine E.To.code ?_
          refine E.C.seq ?_
          refine E.C.region ?_
          refine E.G.op (.string s) (fun w => by kernel_rfl) (by kernel_rfl) ?_
          refine E.G.val (.int .u8 (W.byt s.data.toList 1)) (by kernel_rfl) (fun w h => E.sidx s .i64 1 (by kernel_rfl) (by kernel_rfl) (by kernel_rfl) (by first | (have hp := E.size_pos (by assumption); (try simp only [beq_iff_eq, bne_iff_ne, ne_eq, Bool.or_eq_true, Bool.and_eq_true, beq_eq_false_iff_ne, decide_eq_true_eq, decide_eq_false_iff_not, Bool.or_eq_false_iff, Bool.not_eq_true, gt_iff_lt] at *); omega) | ((try simp only [beq_iff_eq, bne_iff_ne, ne_eq, Bool.or_eq_true, Bool.and_eq_true, beq_eq_false_iff_ne, decide_eq_true_eq, decide_eq_false_iff_not, Bool.or_eq_false_iff, Bool.not_eq_true, gt_iff_lt] at *); omega)) (by first | (have hp := E.size_pos (by assumption); (try simp only [beq_iff_eq, bne_iff_ne, ne_eq, Bool.or_eq_true, Bool.and_eq_true, beq_eq_false_iff_ne, decide_eq_true_eq, decide_eq_false_iff_not, Bool.or_eq_false_iff, Bool.not_eq_true, gt_iff_lt] at *); omega) | ((try simp only [beq_iff_eq, bne_iff_ne, ne_eq, Bool.or_eq_true, Bool.and_eq_true, beq_eq_false_iff_ne, decide_eq_true_eq, decide_eq_false_iff_not, Bool.or_eq_false_iff, Bool.not_eq_true, gt_iff_lt] at *); omega)) w) ?_
          refine E.G.op (.int .u32 (IntKind.wrap .u32 (W.byt s.data.toList 1))) (fun w => by kernel_rfl) (by kernel_rfl) ?_
          refine E.G.op (.pointer (some ⟨g2, 5, none⟩)) (fun w => by kernel_rfl) (by kernel_rfl) ?_
          refine E.G.store 0 [.int .i64 (IntKind.wrap .i64 (W.byt s.data.toList 0)), .int .i64 0, .int .i64 0, .int .i64 (-1), .int .i64 0, .int .u32 (IntKind.wrap .u32 (W.byt s.data.toList 1)), .int .i64 ((s.size : Nat) : Int)] rfl rfl (by kernel_rfl) (by kernel_rfl) ?_
          refine E.To.code ?_
          refine E.C.seq ?_
          refine E.C.seq ?_
          refine E.C.region ?_
          refine E.G.op (.int .i64 (R2.Format (IntKind.wrap .i64 (W.byt s.data.toList 0)))) (fun w => by kernel_rfl) (by kernel_rfl) ?_
          refine E.G.op (.bool ((R2.Format (IntKind.wrap .i64 (W.byt s.data.toList 0))) == 8)) (fun w => by kernel_rfl) (by kernel_rfl) ?_
          refine E.To.code ?_
          refine E.C.weak [(0, .string s), (2, .pointer (some ⟨g1, 0, none⟩)), (3, .int .i64 (R2.Format (IntKind.wrap .i64 (W.byt s.data.toList 0)))), (4, .pointer (some ⟨g2, 0, none⟩)), (87, .bool ((R2.Format (IntKind.wrap .i64 (W.byt s.data.toList 0))) == 8))] [(g2, [.int .i64 (IntKind.wrap .i64 (W.byt s.data.toList 0)), .int .i64 0, .int .i64 0, .int .i64 (-1), .int .i64 0, .int .u32 (IntKind.wrap .u32 (W.byt s.data.toList 1)), .int .i64 ((s.size : Nat) : Int)]), (g1, [.int .i64 0, .int .i64 0, .int .i64 0, .int .i64 0, .int .i64 0, .int .u32 0, .int .i64 0])] ⟨by kernel_rfl, by kernel_rfl⟩ (List.Sublist.refl _) ?_
          refine E.C.thencut [(0, .string s), (2, .pointer (some ⟨g1, 0, none⟩)), (3, .int .i64 (R2.Format (IntKind.wrap .i64 (W.byt s.data.toList 0)))), (4, .pointer (some ⟨g2, 0, none⟩))] (fun _ => True) [(g2, [.int .i64 (IntKind.wrap .i64 (W.byt s.data.toList 0)), .int .i64 0, .int .i64 0, .int .i64 (-1), .int .i64 0, .int .u32 (bif ((R2.Format (IntKind.wrap .i64 (W.byt s.data.toList 0))) == 8) then (R2.extend (W.byt s.data.toList 1)) else (IntKind.wrap .u32 (W.byt s.data.toList 1))), .int .i64 ((s.size : Nat) : Int)]), (g1, [.int .i64 0, .int .i64 0, .int .i64 0, .int .i64 0, .int .i64 0, .int .u32 0, .int .i64 0])] ?_ ?_
          · skip
            generalize hc22 : ((R2.Format (IntKind.wrap .i64 (W.byt s.data.toList 0))) == 8) = b23
            cases b23
            · skip
              refine E.C.condF (by kernel_rfl) (by kernel_rfl) ?_
              exact E.C.skip (E.To.pst ⟨by kernel_rfl, by kernel_rfl⟩ (List.Sublist.refl _) (fun _ h => h))
            · skip
              refine E.C.condT (by kernel_rfl) (by kernel_rfl) ?_
              refine E.C.region ?_
              refine E.G.op (.string s) (fun w => by kernel_rfl) (by kernel_rfl) ?_
              refine E.G.val (.int .u8 (W.byt s.data.toList 1)) (by kernel_rfl) (fun w h => E.sidx s .i64 1 (by kernel_rfl) (by kernel_rfl) (by kernel_rfl) (by first | (have hp := E.size_pos (by assumption); (try simp only [beq_iff_eq, bne_iff_ne, ne_eq, Bool.or_eq_true, Bool.and_eq_true, beq_eq_false_iff_ne, decide_eq_true_eq, decide_eq_false_iff_not, Bool.or_eq_false_iff, Bool.not_eq_true, gt_iff_lt] at *); omega) | ((try simp only [beq_iff_eq, bne_iff_ne, ne_eq, Bool.or_eq_true, Bool.and_eq_true, beq_eq_false_iff_ne, decide_eq_true_eq, decide_eq_false_iff_not, Bool.or_eq_false_iff, Bool.not_eq_true, gt_iff_lt] at *); omega)) (by first | (have hp := E.size_pos (by assumption); (try simp only [beq_iff_eq, bne_iff_ne, ne_eq, Bool.or_eq_true, Bool.and_eq_true, beq_eq_false_iff_ne, decide_eq_true_eq, decide_eq_false_iff_not, Bool.or_eq_false_iff, Bool.not_eq_true, gt_iff_lt] at *); omega) | ((try simp only [beq_iff_eq, bne_iff_ne, ne_eq, Bool.or_eq_true, Bool.and_eq_true, beq_eq_false_iff_ne, decide_eq_true_eq, decide_eq_false_iff_not, Bool.or_eq_false_iff, Bool.not_eq_true, gt_iff_lt] at *); omega)) w) ?_
              refine E.G.call (.int .u32 (R2.extend (W.byt s.data.toList 1))) (fun w h => R2_extend _ w) (fun w _ => by kernel_rfl) (by kernel_rfl) ?_
              refine E.G.op (.pointer (some ⟨g2, 5, none⟩)) (fun w => by kernel_rfl) (by kernel_rfl) ?_
              refine E.G.store 0 [.int .i64 (IntKind.wrap .i64 (W.byt s.data.toList 0)), .int .i64 0, .int .i64 0, .int .i64 (-1), .int .i64 0, .int .u32 (R2.extend (W.byt s.data.toList 1)), .int .i64 ((s.size : Nat) : Int)] rfl rfl (by kernel_rfl) (by kernel_rfl) ?_
              exact E.To.pst ⟨by kernel_rfl, by kernel_rfl⟩ (List.Sublist.refl _) (fun _ h => h)
          refine E.C.seq ?_
          refine E.C.region ?_
          refine E.G.op (.int .i64 (R2.Format (IntKind.wrap .i64 (W.byt s.data.toList 0)))) (fun w => by kernel_rfl) (by kernel_rfl) ?_
          refine E.G.op (.bool ((R2.Format (IntKind.wrap .i64 (W.byt s.data.toList 0))) == 9)) (fun w => by kernel_rfl) (by kernel_rfl) ?_
          refine E.To.code ?_
          refine E.C.cond ((R2.Format (IntKind.wrap .i64 (W.byt s.data.toList 0))) == 9) (by kernel_rfl) (by kernel_rfl) (fun hc24 => ?_) (fun hc24 => ?_)
          · skip
            refine E.C.region ?_
            refine E.G.op (.string s) (fun w => by kernel_rfl) (by kernel_rfl) ?_
            refine E.G.val (.string (s.extract 1 s.size)) (by kernel_rfl) (fun w h => E.slFrom s .i64 1 (by kernel_rfl) (by kernel_rfl) (by kernel_rfl) (by first | (have hp := E.size_pos (by assumption); (try simp only [beq_iff_eq, bne_iff_ne, ne_eq, Bool.or_eq_true, Bool.and_eq_true, beq_eq_false_iff_ne, decide_eq_true_eq, decide_eq_false_iff_not, Bool.or_eq_false_iff, Bool.not_eq_true, gt_iff_lt] at *); omega) | ((try simp only [beq_iff_eq, bne_iff_ne, ne_eq, Bool.or_eq_true, Bool.and_eq_true, beq_eq_false_iff_ne, decide_eq_true_eq, decide_eq_false_iff_not, Bool.or_eq_false_iff, Bool.not_eq_true, gt_iff_lt] at *); omega)) (by first | (have hp := E.size_pos (by assumption); (try simp only [beq_iff_eq, bne_iff_ne, ne_eq, Bool.or_eq_true, Bool.and_eq_true, beq_eq_false_iff_ne, decide_eq_true_eq, decide_eq_false_iff_not, Bool.or_eq_false_iff, Bool.not_eq_true, gt_iff_lt] at *); omega) | ((try simp only [beq_iff_eq, bne_iff_ne, ne_eq, Bool.or_eq_true, Bool.and_eq_true, beq_eq_false_iff_ne, decide_eq_true_eq, decide_eq_false_iff_not, Bool.or_eq_false_iff, Bool.not_eq_true, gt_iff_lt] at *); omega)) w) ?_
            refine E.G.call (.int .u32 (R2.long (s.extract 1 s.size))) (fun w h => R2_long _ ((by rw [ByteArray.size_extract]; first | (have hp := E.size_pos (by assumption); (try simp only [beq_iff_eq, bne_iff_ne, ne_eq, Bool.or_eq_true, Bool.and_eq_true, beq_eq_false_iff_ne, decide_eq_true_eq, decide_eq_false_iff_not, Bool.or_eq_false_iff, Bool.not_eq_true, gt_iff_lt] at *); omega) | ((try simp only [beq_iff_eq, bne_iff_ne, ne_eq, Bool.or_eq_true, Bool.and_eq_true, beq_eq_false_iff_ne, decide_eq_true_eq, decide_eq_false_iff_not, Bool.or_eq_false_iff, Bool.not_eq_true, gt_iff_lt] at *); omega))) w) (fun w _ => by kernel_rfl) (by kernel_rfl) ?_
            refine E.G.op (.pointer (some ⟨g2, 5, none⟩)) (fun w => by kernel_rfl) (by kernel_rfl) ?_
            refine E.G.store 0 [.int .i64 (IntKind.wrap .i64 (W.byt s.data.toList 0)), .int .i64 0, .int .i64 0, .int .i64 (-1), .int .i64 0, .int .u32 (R2.long (s.extract 1 s.size)), .int .i64 ((s.size : Nat) : Int)] rfl rfl (by kernel_rfl) (by kernel_rfl) ?_
            refine E.P.nb (E.To.code ?_)
            refine E.C.weak [(2, .pointer (some ⟨g1, 0, none⟩)), (4, .pointer (some ⟨g2, 0, none⟩))] [(g2, [.int .i64 (IntKind.wrap .i64 (W.byt s.data.toList 0)), .int .i64 0, .int .i64 0, .int .i64 (-1), .int .i64 0, .int .u32 (R2.long (s.extract 1 s.size)), .int .i64 ((s.size : Nat) : Int)]), (g1, [.int .i64 0, .int .i64 0, .int .i64 0, .int .i64 0, .int .i64 0, .int .u32 0, .int .i64 0])] ⟨by kernel_rfl, by kernel_rfl⟩ (List.Sublist.refl _) ?_
            refine E.C.seq ?_
            refine E.C.region ?_
            refine E.G.val (.agg #[.int .i64 (IntKind.wrap .i64 (W.byt s.data.toList 0)), .int .i64 0, .int .i64 0, .int .i64 (-1), .int .i64 0, .int .u32 (R2.long (s.extract 1 s.size)), .int .i64 ((s.size : Nat) : Int)]) (by kernel_rfl) (fun w h => E.run_load h 0 rfl rfl (by kernel_rfl)) ?_
            refine E.G.store 1 [.int .i64 (IntKind.wrap .i64 (W.byt s.data.toList 0)), .int .i64 0, .int .i64 0, .int .i64 (-1), .int .i64 0, .int .u32 (R2.long (s.extract 1 s.size)), .int .i64 ((s.size : Nat) : Int)] rfl rfl (by kernel_rfl) (by kernel_rfl) ?_
            refine E.To.code ?_
            refine E.C.ret (E.To.body (fn := Try.f29) [.agg #[.int .i64 (IntKind.wrap .i64 (W.byt s.data.toList 0)), .int .i64 0, .int .i64 0, .int .i64 (-1), .int .i64 0, .int .u32 (R2.long (s.extract 1 s.size)), .int .i64 ((s.size : Nat) : Int)]] ?_ ?_)
            · exact ⟨⟨by kernel_rfl, _, _, 1, _, rfl, rfl, by kernel_rfl⟩, trivial⟩
            · intro w h
              exact ⟨by show Ending.returned (.agg #[.int .i64 (IntKind.wrap .i64 (W.byt s.data.toList 0)), .int .i64 0, .int .i64 0, .int .i64 (-1), .int .i64 0, .int .u32 (R2.long (s.extract 1 s.size)), .int .i64 ((s.size : Nat) : Int)]) = _; unfold R2.read; rw [hc13, cond_false, hc14, cond_false, hc15, cond_false, hc21, cond_true, hc24, cond_true], h.ch.bel (fun _ h => h.elim)⟩
          · skip
            refine E.C.skip (E.P.nb (E.To.code ?_))
            refine E.C.seq ?_
            refine E.C.region ?_
            refine E.G.val (.agg #[.int .i64 (IntKind.wrap .i64 (W.byt s.data.toList 0)), .int .i64 0, .int .i64 0, .int .i64 (-1), .int .i64 0, .int .u32 (bif ((R2.Format (IntKind.wrap .i64 (W.byt s.data.toList 0))) == 8) then (R2.extend (W.byt s.data.toList 1)) else (IntKind.wrap .u32 (W.byt s.data.toList 1))), .int .i64 ((s.size : Nat) : Int)]) (by kernel_rfl) (fun w h => E.run_load h 0 rfl rfl (by kernel_rfl)) ?_
            refine E.G.store 1 [.int .i64 (IntKind.wrap .i64 (W.byt s.data.toList 0)), .int .i64 0, .int .i64 0, .int .i64 (-1), .int .i64 0, .int .u32 (bif ((R2.Format (IntKind.wrap .i64 (W.byt s.data.toList 0))) == 8) then (R2.extend (W.byt s.data.toList 1)) else (IntKind.wrap .u32 (W.byt s.data.toList 1))), .int .i64 ((s.size : Nat) : Int)] rfl rfl (by kernel_rfl) (by kernel_rfl) ?_
            refine E.To.code ?_
            refine E.C.ret (E.To.body (fn := Try.f29) [.agg #[.int .i64 (IntKind.wrap .i64 (W.byt s.data.toList 0)), .int .i64 0, .int .i64 0, .int .i64 (-1), .int .i64 0, .int .u32 (bif ((R2.Format (IntKind.wrap .i64 (W.byt s.data.toList 0))) == 8) then (R2.extend (W.byt s.data.toList 1)) else (IntKind.wrap .u32 (W.byt s.data.toList 1))), .int .i64 ((s.size : Nat) : Int)]] ?_ ?_)
            · exact ⟨⟨by kernel_rfl, _, _, 1, _, rfl, rfl, by kernel_rfl⟩, trivial⟩
            · intro w h
              exact ⟨by show Ending.returned (.agg #[.int .i64 (IntKind.wrap .i64 (W.byt s.data.toList 0)), .int .i64 0, .int .i64 0, .int .i64 (-1), .int .i64 0, .int .u32 (bif ((R2.Format (IntKind.wrap .i64 (W.byt s.data.toList 0))) == 8) then (R2.extend (W.byt s.data.toList 1)) else (IntKind.wrap .u32 (W.byt s.data.toList 1))), .int .i64 ((s.size : Nat) : Int)]) = _; unfold R2.read; rw [hc13, cond_false, hc14, cond_false, hc15, cond_false, hc21, cond_true, hc24, cond_false], h.ch.bel (fun _ h => h.elim)⟩
        · skip
          refine E.C.skip (E.P.nb (E.To.code ?_))
          refine E.C.seq ?_
          refine E.C.region ?_
          refine E.G.val (.agg #[.int .i64 (IntKind.wrap .i64 (W.byt s.data.toList 0)), .int .i64 (bif ((((R2.Format (IntKind.wrap .i64 (W.byt s.data.toList 0))) == 2) || ((R2.Format (IntKind.wrap .i64 (W.byt s.data.toList 0))) == 4)) || ((R2.Format (IntKind.wrap .i64 (W.byt s.data.toList 0))) == 5)) then (IntKind.wrap .i64 (W.byt s.data.toList 1)) else (bif (decide (((s.size : Nat) : Int) > 1)) then (IntKind.wrap .i64 (Int.tdiv (IntKind.wrap .i64 (W.byt s.data.toList 1)) 16)) else 0)), .int .i64 (bif ((((R2.Format (IntKind.wrap .i64 (W.byt s.data.toList 0))) == 2) || ((R2.Format (IntKind.wrap .i64 (W.byt s.data.toList 0))) == 4)) || ((R2.Format (IntKind.wrap .i64 (W.byt s.data.toList 0))) == 5)) then 0 else (bif (decide (((s.size : Nat) : Int) > 1)) then (Int.tmod (IntKind.wrap .i64 (W.byt s.data.toList 1)) 16) else 0)), .int .i64 (-1), .int .i64 0, .int .u32 0, .int .i64 ((s.size : Nat) : Int)]) (by kernel_rfl) (fun w h => E.run_load h 0 rfl rfl (by kernel_rfl)) ?_
          refine E.G.store 1 [.int .i64 (IntKind.wrap .i64 (W.byt s.data.toList 0)), .int .i64 (bif ((((R2.Format (IntKind.wrap .i64 (W.byt s.data.toList 0))) == 2) || ((R2.Format (IntKind.wrap .i64 (W.byt s.data.toList 0))) == 4)) || ((R2.Format (IntKind.wrap .i64 (W.byt s.data.toList 0))) == 5)) then (IntKind.wrap .i64 (W.byt s.data.toList 1)) else (bif (decide (((s.size : Nat) : Int) > 1)) then (IntKind.wrap .i64 (Int.tdiv (IntKind.wrap .i64 (W.byt s.data.toList 1)) 16)) else 0)), .int .i64 (bif ((((R2.Format (IntKind.wrap .i64 (W.byt s.data.toList 0))) == 2) || ((R2.Format (IntKind.wrap .i64 (W.byt s.data.toList 0))) == 4)) || ((R2.Format (IntKind.wrap .i64 (W.byt s.data.toList 0))) == 5)) then 0 else (bif (decide (((s.size : Nat) : Int) > 1)) then (Int.tmod (IntKind.wrap .i64 (W.byt s.data.toList 1)) 16) else 0)), .int .i64 (-1), .int .i64 0, .int .u32 0, .int .i64 ((s.size : Nat) : Int)] rfl rfl (by kernel_rfl) (by kernel_rfl) ?_
          refine E.To.code ?_
          refine E.C.ret (E.To.body (fn := Try.f29) [.agg #[.int .i64 (IntKind.wrap .i64 (W.byt s.data.toList 0)), .int .i64 (bif ((((R2.Format (IntKind.wrap .i64 (W.byt s.data.toList 0))) == 2) || ((R2.Format (IntKind.wrap .i64 (W.byt s.data.toList 0))) == 4)) || ((R2.Format (IntKind.wrap .i64 (W.byt s.data.toList 0))) == 5)) then (IntKind.wrap .i64 (W.byt s.data.toList 1)) else (bif (decide (((s.size : Nat) : Int) > 1)) then (IntKind.wrap .i64 (Int.tdiv (IntKind.wrap .i64 (W.byt s.data.toList 1)) 16)) else 0)), .int .i64 (bif ((((R2.Format (IntKind.wrap .i64 (W.byt s.data.toList 0))) == 2) || ((R2.Format (IntKind.wrap .i64 (W.byt s.data.toList 0))) == 4)) || ((R2.Format (IntKind.wrap .i64 (W.byt s.data.toList 0))) == 5)) then 0 else (bif (decide (((s.size : Nat) : Int) > 1)) then (Int.tmod (IntKind.wrap .i64 (W.byt s.data.toList 1)) 16) else 0)), .int .i64 (-1), .int .i64 0, .int .u32 0, .int .i64 ((s.size : Nat) : Int)]] ?_ ?_)
          · exact ⟨⟨by kernel_rfl, _, _, 1, _, rfl, rfl, by kernel_rfl⟩, trivial⟩
          · intro w h
            exact ⟨by show Ending.returned (.agg #[.int .i64 (IntKind.wrap .i64 (W.byt s.data.toList 0)), .int .i64 (bif ((((R2.Format (IntKind.wrap .i64 (W.byt s.data.toList 0))) == 2) || ((R2.Format (IntKind.wrap .i64 (W.byt s.data.toList 0))) == 4)) || ((R2.Format (IntKind.wrap .i64 (W.byt s.data.toList 0))) == 5)) then (IntKind.wrap .i64 (W.byt s.data.toList 1)) else (bif (decide (((s.size : Nat) : Int) > 1)) then (IntKind.wrap .i64 (Int.tdiv (IntKind.wrap .i64 (W.byt s.data.toList 1)) 16)) else 0)), .int .i64 (bif ((((R2.Format (IntKind.wrap .i64 (W.byt s.data.toList 0))) == 2) || ((R2.Format (IntKind.wrap .i64 (W.byt s.data.toList 0))) == 4)) || ((R2.Format (IntKind.wrap .i64 (W.byt s.data.toList 0))) == 5)) then 0 else (bif (decide (((s.size : Nat) : Int) > 1)) then (Int.tmod (IntKind.wrap .i64 (W.byt s.data.toList 1)) 16) else 0)), .int .i64 (-1), .int .i64 0, .int .u32 0, .int .i64 ((s.size : Nat) : Int)]) = _; unfold R2.read; rw [hc13, cond_false, hc14, cond_false, hc15, cond_false, hc21, cond_false], h.ch.bel (fun _ h => h.elim)⟩
end Go.Proofs.Ytgnekniabedomaa
