/- Walks: lemmas for MemDirty, printed by wip/eng. No condition but what is named. -/
import Derived.Test.YtdjjjikokfadiaaProg
import Derived.Test.YtdjjjikokfadiaaZNt
import Derived.Test.YtdjjjikokfadiaaZNq
namespace Go.Proofs.Ytdjjjikokfadiaa
set_option linter.unusedVariables false
set_option linter.unusedSimpArgs false
open Go.RowKit
theorem A.C.drop {P : Program} {n : Nat} {Q : Exit → Act → World → Prop} {w0 : World} {o0 a0 : Nat → Prop} {its : List A.It} {L : List (Nat × List Value)} {fr : E.Fr} {c : Code} (l r : List A.It) (hp : its.Perm (l ++ r)) (k : E.C P n Q c fr o0 w0 (A.X w0 o0 a0 l) L) : E.C P n Q c fr o0 w0 (A.X w0 o0 a0 its) L :=
  fun a w h1 h2 => k a w h1 (h2.monoX fun w ⟨hs, o, a, hh, hg⟩ => by
    obtain ⟨o1, a1, o2, a2, k1, k2, _, _, ho, ha⟩ := (hh.perm hp).append
    exact ⟨hs, o1, a1, k1, fun x hx hk => hg.1 x hx ((ho x).2 (.inl hk)), fun x hx hk => hg.2 x hx ((ha x).2 (.inl hk))⟩)
section rules
variable {P : Program} {fr : E.Fr} {its : List A.It}
variable {T : TypeId} {d : Option Nat} {pos : String} {af : Array Edge} {gd : Option (Nat × Bool)}
/-- A whole slice of bytes of known length, as a string. -/
theorem A.Y.strN {w : World} {x : Operand} {a b e : TypeId} {ao : Option Addr} {cap c2 : Nat} {l : List Int} {k n : Nat} (h : A.Y its w) (hk : its[k]? = some (A.vec .u8 ao cap l)) (hs : P.underlying a = some (.slice e)) (he : P.underlying e = some (.int .u8)) (hb : P.underlying b = some .string)
    (hx : E.ev fr x = .slice ao n c2) (hn : l.length = n) (hl : 0 < n) :
    (execOp (E.ev fr) ⟨d, .convert a b x, T, pos, af, gd⟩).run P w = .ok (.value (.string (strOfNums l))) w := by
  subst hn
  exact A.Y.strAll h hk hs he hb hx hl
end rules
/-- Bytes of code, the first k. -/
def M.cl (V : M.V) (p : Nat) : Nat → List Int
  | 0 => List.replicate 256 0
  | k + 1 => (M.cl V p k).set k (V.code (256 * p + k))
theorem M.cl_len (V : M.V) (p : Nat) : ∀ k, (M.cl V p k).length = 256
  | 0 => List.length_replicate
  | k + 1 => by rw [M.cl, List.length_set]; exact M.cl_len V p k
theorem M.cl_at (V : M.V) (p : Nat) : ∀ k, k ≤ 256 → ∀ x, x < k → (M.cl V p k).getD x 0 = V.code (256 * p + x)
  | 0, _, x, hx => absurd hx (Nat.not_lt_zero _)
  | k + 1, hk, x, hx => by
    have hl := M.cl_len V p k
    rw [M.cl]
    by_cases e : x = k
    · subst e; rw [List.getD_eq_getElem?_getD, List.getElem?_set_self (by omega)]; rfl
    · have := M.cl_at V p k (by omega) x (by omega)
      rw [← this]
      simp [List.getD, List.getElem?_set_ne (fun h => e h.symm)]
def M.cs (V : M.V) (p : Nat) : ByteArray := strOfNums (M.cl V p 256)
theorem M.cs_eq {V : M.V} {p k : Nat} (hk : k ≤ 256) (h : decide (((k : Nat) : Int) < 256) = false) : strOfNums (M.cl V p k) = M.cs V p := by
  have : k = 256 := by have := of_decide_eq_false h; omega
  subst this; rfl
theorem M.cs_size (V : M.V) (p : Nat) : (M.cs V p).size = 256 := by unfold M.cs; rw [strOfNums_size, M.cl_len]
theorem M.cs_at {V : M.V} (hV : R.Wf V) (p x : Nat) (hx : x < 256) : W.byt (M.cs V p).data.toList x = V.code (256 * p + x) := by
  unfold M.cs
  rw [W.byt_nums _ _ (fun y hy => ?_), M.cl_at V p 256 (Nat.le_refl _) x hx]
  obtain ⟨i, hi, rfl⟩ := List.mem_iff_getElem.1 hy
  have hl := M.cl_len V p 256
  have e := M.cl_at V p 256 (Nat.le_refl _) i (hl ▸ hi)
  have e2 : (M.cl V p 256).getD i 0 = (M.cl V p 256)[i] := by simp [List.getD, hi]
  rw [← e2, e]
  exact R.code_bd hV _
/-- The first p pages of V put back into U. -/
def M.rs (V U : M.V) : Nat → M.V
  | 0 => U
  | p + 1 => ((M.rs V U p).poke (256 * p) (V.page ((p : Nat) : Int)) (V.page ((p : Nat) : Int)).size).setc ((p : Nat) : Int) (M.cs V p)
theorem M.set_cd (V : M.V) (a : Nat) (v : Int) : (V.set a v).cd = V.cd ∧ (V.set a v).ci = V.ci := by unfold M.V.set; split <;> exact ⟨rfl, rfl⟩
theorem M.poke_cd (V : M.V) (a : Nat) (s : ByteArray) : ∀ c, (V.poke a s c).cd = V.cd ∧ (V.poke a s c).ci = V.ci
  | 0 => ⟨rfl, rfl⟩
  | c + 1 => by rw [M.V.poke, (M.set_cd _ _ _).1, (M.set_cd _ _ _).2]; exact M.poke_cd V a s c
theorem M.put_cd (V : M.V) (a : Nat) (v : Int) : ∀ c, (V.put a v c).cd = V.cd ∧ (V.put a v c).ci = V.ci
  | 0 => ⟨rfl, rfl⟩
  | c + 1 => by rw [M.V.put, (M.set_cd _ _ _).1, (M.set_cd _ _ _).2]; exact M.put_cd V a v c
theorem M.sto_cd (V : M.V) (a : Nat) (n v : Int) : (V.sto a n v).cd = V.cd ∧ (V.sto a n v).ci = V.ci := by
  unfold M.V.sto; split
  · exact M.put_cd _ _ _ _
  · exact ⟨rfl, rfl⟩
theorem M.sync_cd (V : M.V) (k : Nat) : (V.sync k).cd = V.cd ∧ (V.sync k).ci = V.ci := by unfold M.V.sync; split <;> exact ⟨rfl, rfl⟩
theorem M.setc_cd (V : M.V) (k : Int) (s : ByteArray) : (V.setc k s).cd = V.cd ∧ (V.setc k s).ci = V.ci := by unfold M.V.setc; split <;> exact ⟨rfl, rfl⟩
theorem M.prot_cd (V : M.V) (k r : Int) : (V.prot k r).cd = V.cd ∧ (V.prot k r).ci = V.ci := by unfold M.V.prot; split <;> exact ⟨rfl, rfl⟩
theorem M.cond_cd {V U T : M.V} (b : Bool) (h : U.cd = V.cd ∧ U.ci = V.ci) (k : T.cd = V.cd ∧ T.ci = V.ci) : (bif b then U else T).cd = V.cd ∧ (bif b then U else T).ci = V.ci := by
  cases b
  · exact k
  · exact h
theorem M.op_cd (V : M.V) (p : M.Op) : (V.op p).cd = V.cd ∧ (V.op p).ci = V.ci := by
  unfold M.V.op
  exact M.cond_cd _ ⟨rfl, rfl⟩ (M.cond_cd _ (M.sto_cd _ _ _ _) (M.cond_cd _ ⟨rfl, rfl⟩ (M.cond_cd _ (M.sync_cd _ _) (M.cond_cd _ (M.poke_cd _ _ _ _) (M.cond_cd _ (M.setc_cd _ _ _) (M.prot_cd _ _ _))))))
theorem M.plays_cd (V : M.V) (q : Nat → M.Op) : ∀ k, (V.plays q k).cd = V.cd ∧ (V.plays q k).ci = V.ci
  | 0 => ⟨rfl, rfl⟩
  | k + 1 => ⟨(M.op_cd _ _).1.trans (M.plays_cd V q k).1, (M.op_cd _ _).2.trans (M.plays_cd V q k).2⟩
theorem M.dl_nil {V : M.V} : ∀ k, (∀ j, j < k → V.dty j = false) → V.dl k = []
  | 0, _ => rfl
  | k + 1, h => by
    rw [M.V.dl, h k (Nat.lt_succ_self _)]
    exact M.dl_nil k fun j hj => h j (by omega)
theorem M.no_dirty {V : M.V} (h : ∀ j, j < V.n → ∀ x, x < 256 → V.d j x = V.cd j x ∧ V.i j x = V.ci j x) : V.dirty = [] := by
  refine M.dl_nil V.n fun j hj => ?_
  unfold M.V.dty
  rw [M.eqv_congr (f' := V.cd j) (g' := V.cd j) (fun x hx => (h j hj x hx).1) (fun _ _ => rfl), M.eqv_congr (f' := V.ci j) (g' := V.ci j) (fun x hx => (h j hj x hx).2) (fun _ _ => rfl), M.eqv_refl, M.eqv_refl]; rfl
theorem M.clean_at (V : M.V) (j : Nat) (hj : j < V.n) : V.clean.cd j = V.d j ∧ V.clean.ci j = V.i j := by
  unfold M.V.clean M.V.cln
  exact ⟨if_pos hj, if_pos hj⟩
theorem M.clean_dirty (V : M.V) : V.clean.dirty = [] := M.no_dirty fun j hj x _ => ⟨congrFun (M.clean_at V j hj).1.symm x, congrFun (M.clean_at V j hj).2.symm x⟩
theorem M.poke_o {V : M.V} {p : Nat} (hp : p < 4096) (s : ByteArray) : ∀ c, c ≤ 256 → ∀ j, j ≠ p → (V.poke (256 * p) s c).d j = V.d j ∧ (V.poke (256 * p) s c).i j = V.i j
  | 0, _, _, _ => ⟨rfl, rfl⟩
  | c + 1, hc, j, hj => by
    have ih := M.poke_o hp (V := V) s c (by omega) j hj
    have e : (256 * p + c) % 4294967296 = 256 * p + c := by omega
    rw [M.V.poke, e, ← ih.1, ← ih.2]
    unfold M.V.set
    split
    · refine ⟨funext fun x => ?_, funext fun x => ?_⟩
      · show M.up _ _ _ _ j x = _
        unfold M.up; rw [if_neg (by omega)]
      · show (if _ then M.up _ _ _ _ else _) j x = _
        split
        · unfold M.up; rw [if_neg (by omega)]
        · rfl
    · exact ⟨rfl, rfl⟩
theorem M.rs_is {V U : M.V} {n : Nat} {c : Bool} (h : M.Is U n c) : ∀ p, M.Is (M.rs V U p) n c
  | 0 => h
  | p + 1 => ((M.rs_is h p).poke _ _ _).setc _ _
theorem M.rs_cd (V U : M.V) : ∀ p, (M.rs V U p).cd = U.cd ∧ (M.rs V U p).ci = U.ci
  | 0 => ⟨rfl, rfl⟩
  | p + 1 => by rw [M.rs, (M.setc_cd _ _ _).1, (M.setc_cd _ _ _).2, (M.poke_cd _ _ _ _).1, (M.poke_cd _ _ _ _).2]; exact M.rs_cd V U p
theorem M.rs_d {V U : M.V} {n : Nat} {c : Bool} (hV : M.Is V n c) (hU : M.Is U n c) : ∀ p, p ≤ n → ∀ j, j < p → ∀ x, x < 256 → (M.rs V U p).d j x = V.d j x ∧ (c = false → (M.rs V U p).i j x = V.i j x)
  | 0, _, j, hj, _, _ => absurd hj (Nat.not_lt_zero _)
  | p + 1, hp, j, hj, x, hx => by
    have hR := M.rs_is (V := V) hU p
    have hn4 := hV.2.2.n
    have hnn := hV.1
    have hs := M.page_size hV (p := p) (by omega)
    have hsc : ∀ (T : M.V) (k : Int) (s : ByteArray), (T.setc k s).d = T.d := fun T k s => by unfold M.V.setc; split <;> rfl
    rw [M.rs, hsc]
    have hP := hR.poke (256 * p) (V.page ((p : Nat) : Int)) (V.page ((p : Nat) : Int)).size
    have hi : ∀ (T : M.V), M.Is T n c → c = false → (T.setc ((p : Nat) : Int) (M.cs V p)).i j x = if j = p then V.code (256 * p + x) else T.i j x := fun T hT hc => by
      unfold M.V.setc
      rw [if_pos ⟨by omega, by rw [hT.1]; omega, by rw [hT.2.1]; exact hc⟩]
      show (if j = ((p : Nat) : Int).toNat ∧ x < Nat.min (M.cs V p).size 256 then _ else _) = _
      rw [M.cs_size, show Nat.min 256 256 = 256 from rfl, show ((p : Nat) : Int).toNat = p from rfl]
      by_cases e : j = p
      · rw [if_pos ⟨e, hx⟩, if_pos e, M.cs_at hV.2.2 p x hx]
      · rw [if_neg (fun h => e h.1), if_neg e]
    by_cases e : j = p
    · subst e
      refine ⟨?_, fun hc => ?_⟩
      · rw [hs, M.poke_d (by rw [hR.1]; omega) hR.2.2.n _ 256 (Nat.le_refl _) x hx, if_pos hx, M.byt_page hV (by omega) hx]
      · rw [hi _ hP hc, if_pos rfl]
        unfold M.V.code
        rw [show (256 * j + x) / 256 = j by omega, show (256 * j + x) % 256 = x by omega, if_pos (by omega)]
    · have ih := M.rs_d hV hU p (by omega) j (by omega) x hx
      have ho := M.poke_o (V := M.rs V U p) (p := p) (by omega) (V.page ((p : Nat) : Int)) 256 (Nat.le_refl _) j e
      refine ⟨?_, fun hc => ?_⟩
      · rw [hs, congrFun ho.1 x]; exact ih.1
      · rw [hi _ hP hc, if_neg e, hs, congrFun ho.2 x]; exact ih.2 hc
theorem M.rs_dirty {W : M.V} {n k : Nat} {c : Bool} (h : M.Is W n c) (q : Nat → M.Op) {p : Nat} (hp : p = n) : (M.rs W.clean (W.clean.plays q k) p).dirty = [] := by
  subst hp
  have hV : M.Is W.clean p c := h.clean
  have hU := hV.plays q k
  have hR := M.rs_is (V := W.clean) hU p
  have hcd := M.rs_cd W.clean (W.clean.plays q k) p
  have hpc := M.plays_cd W.clean q k
  have key : ∀ j, j < p → ∀ x, x < 256 → (M.rs W.clean (W.clean.plays q k) p).cd j x = W.d j x ∧ (M.rs W.clean (W.clean.plays q k) p).ci j x = W.i j x := fun j hj x hx => by
    rw [hcd.1, hcd.2, hpc.1, hpc.2, (M.clean_at W j (h.1 ▸ hj)).1, (M.clean_at W j (h.1 ▸ hj)).2]; exact ⟨rfl, rfl⟩
  refine M.no_dirty fun j hj x hx => ?_
  rw [hR.1] at hj
  have hd := M.rs_d hV hU p (Nat.le_refl _) j hj x hx
  have hk := key j hj x hx
  refine ⟨hd.1.trans hk.1.symm, ?_⟩
  cases hc : c with
  | false => exact (hd.2 hc).trans hk.2.symm
  | true =>
    have co := hR.2.2.co (hR.2.1.trans hc) j (hR.1.symm ▸ hj) x hx
    rw [co.1, co.2]; exact hd.1.trans hk.1.symm
theorem M.end3 {k : Nat} (h : k ≤ 3) (h2 : decide (((k : Nat) : Int) < 3) = false) : k = 3 := by have := of_decide_eq_false h2; omega
theorem M.len0 {l : List Int} (h : l = []) : Value.int .i64 ((l.length : Nat) : Int) = .int .i64 0 := by rw [h]; rfl
end Go.Proofs.Ytdjjjikokfadiaa
