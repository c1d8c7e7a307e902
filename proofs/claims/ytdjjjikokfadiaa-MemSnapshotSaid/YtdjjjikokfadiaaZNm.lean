/- Walks: memories of which the size is known, printed by wip/eng. No condition but what is named. -/
import Derived.Test.YtdjjjikokfadiaaProg
import Derived.Test.YtdjjjikokfadiaaZb5
namespace Go.Proofs.Ytdjjjikokfadiaa
set_option linter.unusedVariables false
set_option linter.unusedSimpArgs false
open Go.RowKit
theorem A.Tr.wk {P : Program} {f : FuncId} {args : Array Value} {p : List A.It} {I J : Type} {D : I → Prop} {E : J → Prop} {V : I → Value} {U : J → Value} {q : I → List A.It} {r : J → List A.It} (h : A.Tr P f args p D V q) (k : ∀ i, D i → ∃ j, E j ∧ V i = U j ∧ q i = r j) : A.Tr P f args p E U r := by
  intro w o a hh
  refine (h w o a hh).mono fun e w' ⟨i, hD, he, hr⟩ => ?_
  obtain ⟨j, h1, h2, h3⟩ := k i hD
  exact ⟨j, h1, h2 ▸ he, h3 ▸ hr⟩
/-- A memory of n pages. -/
def M.Is (W : M.V) (n : Nat) (coh : Bool) : Prop := W.n = n ∧ W.coh = coh ∧ R.Wf W
theorem M.poke_n (V : M.V) (a : Nat) (s : ByteArray) : ∀ c, (V.poke a s c).n = V.n
  | 0 => rfl
  | c + 1 => by rw [M.V.poke, R.set_n]; exact M.poke_n V a s c
theorem M.poke_coh (V : M.V) (a : Nat) (s : ByteArray) : ∀ c, (V.poke a s c).coh = V.coh
  | 0 => rfl
  | c + 1 => by rw [M.V.poke, R.set_coh]; exact M.poke_coh V a s c
theorem M.put_n (V : M.V) (a : Nat) (v : Int) : ∀ c, (V.put a v c).n = V.n
  | 0 => rfl
  | c + 1 => by rw [M.V.put, R.set_n]; exact M.put_n V a v c
theorem M.put_coh (V : M.V) (a : Nat) (v : Int) : ∀ c, (V.put a v c).coh = V.coh
  | 0 => rfl
  | c + 1 => by rw [M.V.put, R.set_coh]; exact M.put_coh V a v c
theorem M.Is.poke {V : M.V} {n : Nat} {c : Bool} (h : M.Is V n c) (a : Nat) (s : ByteArray) (k : Nat) : M.Is (V.poke a s k) n c := ⟨(M.poke_n ..).trans h.1, (M.poke_coh ..).trans h.2.1, h.2.2.poke _ _ _⟩
theorem M.Is.sto {V : M.V} {n : Nat} {c : Bool} (h : M.Is V n c) (a : Nat) (m v : Int) : M.Is (V.sto a m v) n c := by
  unfold M.V.sto; split
  · exact ⟨(M.put_n ..).trans h.1, (M.put_coh ..).trans h.2.1, h.2.2.put _ _ _⟩
  · exact h
theorem M.Is.sync {V : M.V} {n : Nat} {c : Bool} (h : M.Is V n c) (k : Nat) : M.Is (V.sync k) n c := ⟨by rw [← h.1]; unfold M.V.sync; split <;> rfl, by rw [← h.2.1]; unfold M.V.sync; split <;> rfl, h.2.2.sync _⟩
theorem M.Is.setc {V : M.V} {n : Nat} {c : Bool} (h : M.Is V n c) (k : Int) (s : ByteArray) : M.Is (V.setc k s) n c := ⟨by rw [← h.1]; unfold M.V.setc; split <;> rfl, by rw [← h.2.1]; unfold M.V.setc; split <;> rfl, h.2.2.setc _ _⟩
theorem M.Is.prot {V : M.V} {n : Nat} {c : Bool} (h : M.Is V n c) (k x : Int) : M.Is (V.prot k x) n c := ⟨by rw [← h.1]; unfold M.V.prot; split <;> rfl, by rw [← h.2.1]; unfold M.V.prot; split <;> rfl, h.2.2.prot _ _⟩
theorem M.Is.clean {V : M.V} {n : Nat} {c : Bool} (h : M.Is V n c) : M.Is V.clean n c := ⟨h.1, h.2.1, h.2.2.clean⟩
theorem M.Is.cond {V W : M.V} {n : Nat} {c : Bool} (b : Bool) (h : M.Is V n c) (k : M.Is W n c) : M.Is (bif b then V else W) n c := by
  cases b
  · exact k
  · exact h
theorem M.Is.op {V : M.V} {n : Nat} {c : Bool} (h : M.Is V n c) (p : M.Op) : M.Is (V.op p) n c := by
  unfold M.V.op
  exact .cond _ h (.cond _ (h.sto _ _ _) (.cond _ h (.cond _ (h.sync _) (.cond _ (h.poke _ _ _) (.cond _ (h.setc _ _) (h.prot _ _))))))
theorem M.Is.plays {V : M.V} {n : Nat} {c : Bool} (h : M.Is V n c) (q : Nat → M.Op) : ∀ k, M.Is (V.plays q k) n c
  | 0 => h
  | k + 1 => (M.Is.plays h q k).op _
theorem M.Is.new (pg : Int) (c : Bool) : M.Is (M.V.new (M.np pg) c) (M.np pg) c := ⟨rfl, rfl, R.Wf.new (M.np_le pg) c⟩
theorem M.Is.beg {V : M.V} {n : Nat} {c : Bool} (h : M.Is V n c) (q : Nat → Int) : ∀ k, M.Is (V.beg q k) n c
  | 0 => h
  | k + 1 => (M.Is.beg h q k).prot _ _
theorem Play2 {m r : Nat} {V : M.V} {ao : Option Addr} {ad : Addr} {n cap k : Nat} {c : Bool} {q : Nat → M.Op} (hao : 0 < n → ao = some ad) (h : M.Is V k c) : A.Tr Try.prog 26 #[.agg #[.pointer (some ⟨m, 0, none⟩), .pointer (some ⟨r, 0, none⟩)], .slice ao n cap] [A.facts (M.opF ad n q), M.It m V [], R.It r V] (I := M.V) (fun W => M.Is W k c) (fun _ => .bool true) (fun W => [A.facts (M.opF ad n q), M.It m W [], R.It r W]) :=
  (Play hao).wk fun _ _ => ⟨_, h.plays _ _, rfl, rfl⟩
theorem Begin2 {it : A.It} {ao : Option Addr} {ad : Addr} {n cap : Nat} {q : Nat → Int} (pg : Int) (coh : Bool) (k : Nat) (hk : M.np pg = k) (hn : n < 9223372036854775807 ∨ pg < 9223372036854775807) (hao : 0 < n → ao = some ad) (hit : ∀ w o a, it.t w o a → ∀ i, i < n → w.cell? (ad.add i) = some (.int .u8 (q i))) : A.Tr Try.prog 25 #[.int .i64 pg, .bool coh, .slice ao n cap] [it] (I := (Nat × Nat) × M.V) (fun i => M.Is i.2 k coh) (fun i => .tuple #[.agg #[.pointer (some ⟨i.1.1, 0, none⟩), .pointer (some ⟨i.1.2, 0, none⟩)], .bool true]) (fun i => [it, M.It i.1.1 i.2 [], R.It i.1.2 i.2]) :=
  (Begin pg coh hn hao hit).wk fun i _ => ⟨(i, _), by subst hk; exact (M.Is.new pg coh).beg _ _, rfl, rfl⟩
end Go.Proofs.Ytdjjjikokfadiaa
