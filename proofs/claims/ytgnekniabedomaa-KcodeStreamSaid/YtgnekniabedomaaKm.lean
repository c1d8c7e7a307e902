/- kcode: what find, read and the writers do, in the words of the logic of symbolic states. No condition. -/
import Derived.Test.YtgnekniabedomaaKg
import Derived.Test.YtgnekniabedomaaKj
import Derived.Test.YtgnekniabedomaaKk
import Derived.Test.YtgnekniabedomaaKl
import Derived.Test.YtgnekniabedomaaR3
namespace Go.Proofs.Ytgnekniabedomaa
set_option linter.unusedVariables false
set_option linter.unusedSimpArgs false
open Go.RowKit
theorem K.fmtF_lt (op : Int) : ∀ (m j k : Nat), K.fmtF op m j = some k → j ≤ k ∧ k < j + m
  | 0, _, _, h => by cases h
  | m + 1, j, k, h => by
    unfold K.fmtF at h
    split at h
    · cases h; omega
    · have := K.fmtF_lt op m (j + 1) k h; omega
theorem K.fmt_lt {op : Int} {k : Nat} (h : K.fmt op = some k) : k < 11 := by
  have := K.fmtF_lt op 11 0 k h; omega
theorem find_some {op : Int} {k : Nat} (hk : K.fmt op = some k) (w : World) : Calls Try.prog 27 #[.int .i64 op] w fun e w' => ∃ F cs G ds, e = .returned (.tuple #[.agg #[.int .i64 (K.lo k), .int .i64 (K.hi k), .int .i64 (K.len k), .func (.func F) #[] cs, .func (.func G) #[] ds], .bool true]) ∧ K.Fm k (.func (.func F) #[] cs) (.func (.func G) #[] ds) w' ∧ Bel w w' :=
  (find_of formats_any op w).mono fun e w' h => by
    rcases h with ⟨k', t, p, hlt, hk', he, hf, hb⟩ | ⟨hn, _⟩
    · rw [hk] at hk'; cases hk'
      obtain ⟨⟨F, cs, rfl⟩, ⟨G, ds, rfl⟩⟩ := hf.isf
      exact ⟨F, cs, G, ds, he, hf, hb⟩
    · rw [hk] at hn; cases hn
theorem find_none {op : Int} (hk : K.fmt op = none) (w : World) : Calls Try.prog 27 #[.int .i64 op] w fun e w' => e = .returned (.tuple #[.agg #[.int .i64 0, .int .i64 0, .int .i64 0, .nilFunc, .nilFunc], .bool false]) ∧ Bel w w' :=
  (find_of formats_any op w).mono fun e w' h => by
    rcases h with ⟨k', t, p, hlt, hk', _⟩ | ⟨_, he, hb⟩
    · rw [hk] at hk'; cases hk'
    · exact ⟨he, hb⟩
theorem K.Cl.ext {Ls : List Nat} {F : FuncId} {fs : List FuncId} {v : Value} {w w' : World} (h : K.Cl F fs v w) (hl : 0 < fs.length) (hs : ∀ x ∈ Ls, ∃ n, w.cell? ⟨x, 0, none⟩ = some (.int .i64 n)) (hw : ∀ b, b < w.heap.size → b ∉ Ls → w'.heap[b]? = w.heap[b]?) : K.Cl F fs v w' := by
  obtain ⟨c, b, cap, e, h1, h2⟩ := h
  refine ⟨c, b, cap, e, ?_, fun j hj => ?_⟩
  · rw [World.cell?_of_block (w := w) (a := ⟨c, 0, none⟩) (hw c (lt_of_cell h1) fun q => ?_)]; exact h1
    obtain ⟨n, hn⟩ := hs _ q; rw [h1] at hn; cases hn
  · rw [World.cell?_of_block (w := w) (a := ⟨b, j, none⟩) (hw b (lt_of_cell (h2 j hj)) fun q => ?_)]; exact h2 j hj
    obtain ⟨n, hn⟩ := hs _ q; rw [h2 0 hl] at hn; cases hn
theorem K.Fm.ext {Ls : List Nat} {k : Nat} {t p : Value} {w w' : World} (h : K.Fm k t p w) (hs : ∀ x ∈ Ls, ∃ n, w.cell? ⟨x, 0, none⟩ = some (.int .i64 n)) (hw : ∀ b, b < w.heap.size → b ∉ Ls → w'.heap[b]? = w.heap[b]?) : K.Fm k t p w' := by
  unfold K.Fm at *
  split at h <;> first | exact h | exact ⟨h.1.ext (by simp) hs hw, h.2.ext (by simp) hs hw⟩
/-- A block whose first cell is an integer. -/
def K.intB (L : List (Nat × List Value)) : Prop := ∀ p ∈ L, ∃ n, p.2[0]? = some (.int .i64 n)
theorem find_hp {S : Nat → Prop} {w0 : World} {X : World → Prop} {L : List (Nat × List Value)} {op : Int} {k : Nat} (hk : K.fmt op = some k) (hL : K.intB L) (w : World) (h : E.Hp S w0 X L w) :
    Calls Try.prog 27 #[.int .i64 op] w fun e w' => ∃ i : FuncId × Array Value × FuncId × Array Value, True ∧ e = .returned (.tuple #[.agg #[.int .i64 (K.lo k), .int .i64 (K.hi k), .int .i64 (K.len k), .func (.func i.1) #[] i.2.1, .func (.func i.2.2.1) #[] i.2.2.2], .bool true]) ∧
      E.Hp S w0 (fun w => X w ∧ K.Fm k (.func (.func i.1) #[] i.2.1) (.func (.func i.2.2.1) #[] i.2.2.2) w) L w' :=
  (find_some hk w).mono fun e w' ⟨F, cs, G, ds, he, hf, hb⟩ => ⟨(F, cs, G, ds), trivial, he, by
    have h1 := h.bel hb
    refine h1.addX fun w2 hs hw => hf.ext (Ls := L.map (·.1)) (fun x hx => ?_) hw
    obtain ⟨p, hp, rfl⟩ := List.mem_map.1 hx
    obtain ⟨n, hn⟩ := hL p hp
    exact ⟨n, h1.mem p hp 0 _ hn⟩⟩
theorem kput_at {k : Nat} (hk : k < 11) {t : Value} {G : FuncId} {ds : Array Value} {w : World} (h : K.Fm k t (.func (.func G) #[] ds) w) {i : K.Ins} (hi : K.In i) : Calls Try.prog G (#[.agg #[.int .i64 i.op, .int .i64 i.d, .int .i64 i.s, .int .i64 i.ix, .int .i64 i.sc, .int .u32 i.imm, .int .i64 i.sz]] ++ ds) w fun e w' => e = .returned (.string (strOfNums (K.wr k i))) ∧ Bel w w' := by
  obtain ⟨G', ds', e, _, hc⟩ := put_any k hk t _ w h i hi
  injection e with e1 _ e2
  injection e1 with e1
  subst e1; subst e2
  exact hc w (Bel.refl w)
theorem K.enter_at {k : Nat} (hk : k < 11) {t : Value} {G : FuncId} {ds : Array Value} {w : World} (h : K.Fm k t (.func (.func G) #[] ds) w) (args : Array Value) (w' : World) : (callFunc G args).run Try.prog w' = .ok (.enter G args) w' := by
  obtain ⟨G', ds', e, he, _⟩ := put_any k hk t _ w h ⟨0, 0, 0, 0, 0, 0, 0⟩ ⟨by decide, by decide, by decide, by decide, by decide, by decide, by decide, by decide, by decide, by decide⟩
  injection e with e1 _ e2
  injection e1 with e1
  subst e1
  exact he args w'
theorem E.run_callv {P : Program} {fr : E.Fr} {x : Operand} {args : Array Operand} {ts : Array TypeId} {T : TypeId} {d : Option Nat} {pos : String} {af : Array Edge} {gd : Option (Nat × Bool)} {G : FuncId} {ds : Array Value} (vals : List Value) (hf : E.ev fr x = .func (.func G) #[] ds) (ha : args.toList.map (E.ev fr) = vals) (w : World) :
    (execOp (E.ev fr) ⟨d, .call { callee := .value x, args := args, argTypes := ts }, T, pos, af, gd⟩).run P w = (callFunc G (vals.toArray ++ ds)).run P w := by
  have e : args.map (E.ev fr) = vals.toArray := by rw [← ha]; exact Array.toList_inj.1 (by rw [Array.toList_map])
  show (do let d ← resolve (E.ev fr) { callee := .value x, args := args, argTypes := ts } T; invoke d.target d.args).run P w = _
  simp only [resolve, hf, Deferred.ofValue, e]
  simp [invoke]
theorem K.spans_at : ∀ (l : List (Int × Int)) (j : Nat), j < l.length → (l.flatMap fun p => [Value.int .i64 p.1, Value.int .i64 p.2])[0 + j * 2]? = some (.int .i64 (l.getD j (0, 0)).1) ∧ (l.flatMap fun p => [Value.int .i64 p.1, Value.int .i64 p.2])[0 + j * 2 + 1]? = some (.int .i64 (l.getD j (0, 0)).2)
  | [], j, h => by simp at h
  | p :: l, 0, _ => by simp
  | p :: l, j + 1, h => by
    have := K.spans_at l j (by simpa using h)
    rw [show 0 + (j + 1) * 2 = (0 + j * 2) + 2 by omega]
    simpa using this
theorem within_hp {S : Nat → Prop} {w0 : World} {X : World → Prop} {L : List (Nat × List Value)} {w : World} (h : E.Hp S w0 X L w) (i : Nat) {g cap m : Nat} (op : Int) (l : List (Int × Int)) (hl : l.length ≤ 1000) (hm : l.length = m) (hL : L[i]? = some (g, l.flatMap fun p => [.int .i64 p.1, .int .i64 p.2])) :
    Calls Try.prog 36 #[.int .i64 op, .slice (some ⟨g, 0, none⟩) m cap] w fun e w' => e = .returned (.bool (K.inAny op l)) ∧ Bel w w' := by
  subst hm
  exact within_any op g 0 cap l hl w (fun j hj => h.cell i hL (K.spans_at l j hj).1) (fun j hj => h.cell i hL (K.spans_at l j hj).2)
/-- A call of a function value with what it captured. -/
theorem E.G.callv {P : Program} {n : Nat} {ops : Array Oper} {Q : Exit → Act → World → Prop} {S : Nat → Prop} {w0 : World} {X : World → Prop} {L : List (Nat × List Value)} {l : List Oper} {fr : E.Fr} {x : Operand} {args : Array Operand} {ts : Array TypeId} {T : TypeId} {d : Option Nat} {pos : String} {af : Array Edge} {gd : Option (Nat × Bool)} {G : FuncId} {ds : Array Value} (vals : List Value) (v : Value)
    (hf : E.ev fr x = .func (.func G) #[] ds) (ha : args.toList.map (E.ev fr) = vals) (he : ∀ w, E.Hp S w0 X L w → (callFunc G (vals.toArray ++ ds)).run P w = .ok (.enter G (vals.toArray ++ ds)) w)
    (hc : ∀ w, E.Hp S w0 X L w → Calls P G (vals.toArray ++ ds) w fun e w' => e = .returned v ∧ Bel w w') (hck : E.ck n ops fr ⟨d, .call { callee := .value x, args := args, argTypes := ts }, T, pos, af, gd⟩ = true)
    (k : E.G P n ops Q l (E.upd fr d v) S w0 X L) : E.G P n ops Q (⟨d, .call { callee := .value x, args := args, argTypes := ts }, T, pos, af, gd⟩ :: l) fr S w0 X L :=
  E.G.call (o := ⟨d, .call { callee := .value x, args := args, argTypes := ts }, T, pos, af, gd⟩) v hc (fun w h => (E.run_callv vals hf ha w).trans (he w h)) hck k
theorem E.api_KIns_eql {fr : E.Fr} {x y : Operand} {u T : TypeId} {d : Option Nat} {pos : String} {af : Array Edge} {gd : Option (Nat × Bool)} {a0 a1 a2 a3 a4 a5 a6 b0 b1 b2 b3 b4 b5 b6 : Int} {w : World}
    (hx : E.ev fr x = .agg #[.int .i64 a0, .int .i64 a1, .int .i64 a2, .int .i64 a3, .int .i64 a4, .int .u32 a5, .int .i64 a6]) (hy : E.ev fr y = .agg #[.int .i64 b0, .int .i64 b1, .int .i64 b2, .int .i64 b3, .int .i64 b4, .int .u32 b5, .int .i64 b6]) :
    (execOp (E.ev fr) ⟨d, .binOp .eql 27 x y u, T, pos, af, gd⟩).run Try.prog w = .ok (.value (.bool (a0 == b0 && a1 == b1 && a2 == b2 && a3 == b3 && a4 == b4 && a5 == b5 && a6 == b6))) w := by
  show (do let r ← (do eqGuard .eql 27 x y (E.ev fr x) (E.ev fr y); binOp .eql 27 (E.ev fr x) (E.ev fr y)); pure (Next.value r) : Sem Next).run Try.prog w = _
  rw [hx, hy]
  go_simp
  (repeat' split) <;> simp_all
end Go.Proofs.Ytgnekniabedomaa
