/- What this law needs besides: see the remark ahead of each text. -/
import Derived.Test.YtglidnmmeclneaaGreatKc6
import Derived.Test.YtglidnmmeclneaaGreatRows
import Derived.WalkKit
import Derived.ProofKit
import Derived.OpenShut
import Derived.ShutString
import Derived.ChangeOld
import Derived.Below
import Derived.Carry
import Derived.ChangeMaps5
import Derived.Test.YtglidnmmeclneaaGreatProg
namespace Go.Proofs.YtglidnmmeclneaaGreat
set_option linter.unusedVariables false
set_option linter.unusedSimpArgs false
open Go.ChangeShapes Go.WideShapes Go.ChangeAt Go.RowKit
open Go.ChangeMaps (open_string shut_string)
theorem laidOut : laidOutB Tryz.prog = true := by kernel_rfl
end Go.Proofs.YtglidnmmeclneaaGreat

namespace Go.Proofs.YtglidnmmeclneaaGreat
set_option linter.unusedVariables false
set_option linter.unusedSimpArgs false
open Go.RowKit
section rules
variable {P : Program} {n : Nat} {ops : Array Oper} {Q : Exit → Act → World → Prop} {w0 : World} {o0 a0 : Nat → Prop} {its : List A.It} {L : List (Nat × List Value)} {l : List Oper} {o : Oper} {fr : E.Fr}
/-- Items forgotten or restated. -/
theorem A.X.imp {w : World} {l' : List A.It} (h : E.Hp o0 w0 (A.X w0 o0 a0 its) L w) (hi : ∀ w o a, A.Has its w o a → A.Has l' w o a) : E.Hp o0 w0 (A.X w0 o0 a0 l') L w :=
  h.monoX fun w ⟨hs, o, a, hh, hg⟩ => ⟨hs, o, a, hi w o a hh, hg⟩
end rules
end Go.Proofs.YtglidnmmeclneaaGreat

/- Places in a list, checked by themselves. -/
namespace Go.Proofs.YtglidnmmeclneaaGreat
section short2
variable {P : Program} {n : Nat} {ops : Array Oper} {Q : Exit → Act → World → Prop} {l : List Oper} {o : Oper} {fr : E.Fr} {w0 : World} {o0 a0 : Nat → Prop} {its : List A.It} {L : List (Nat × List Value)}
end short2
end Go.Proofs.YtglidnmmeclneaaGreat
namespace Go.Proofs.YtglidnmmeclneaaGreat
set_option linter.unusedVariables false
set_option linter.unusedSimpArgs false
open Go.RowKit
theorem M.fd_pg {o : M.Obj} {k : Nat} {s : M.Slot} (hk : k < o.sl.length) (hf : M.Fd (o.at k) s) {p : Nat} (h : M.Pg (o.upd k s).sl p) : M.Pg o.sl p := by
  obtain ⟨i, hi, hp⟩ := h
  rw [M.upd_len] at hi
  have hp : p = ((o.upd k s).at i).d ∨ ((o.upd k s).at i).c = some p ∨ p = ((o.upd k s).at i).cd ∨ ((o.upd k s).at i).cc = some p := hp
  rw [M.upd_at hk] at hp
  by_cases e : i = k
  · subst e
    rw [if_pos rfl] at hp
    rcases hp with hp | hp | hp | hp
    · exact ⟨i, hi, .inl (hp.trans hf.d)⟩
    · exact ⟨i, hi, .inr (.inl (hf.c.symm.trans hp))⟩
    · rcases hf.cd with e | ⟨e, _⟩
      · exact ⟨i, hi, .inr (.inr (.inl (hp.trans e)))⟩
      · exact ⟨i, hi, .inl (hp.trans e)⟩
    · rcases hf.cc with e | ⟨e, _⟩
      · exact ⟨i, hi, .inr (.inr (.inr (e.symm.trans hp)))⟩
      · exact ⟨i, hi, .inr (.inl (e.symm.trans hp))⟩
  · rw [if_neg e] at hp; exact ⟨i, hi, hp⟩
theorem M.Inv.fd {o : M.Obj} (h : M.Inv o) {k : Nat} {s : M.Slot} (hk : k < o.sl.length) (hf : M.Fd (o.at k) s) : M.Inv (o.upd k s) := by
  have hd : ∀ j, ((o.upd k s).at j).d = (o.at j).d := fun j => by
    rw [M.upd_at hk]; by_cases e : j = k
    · subst e; rw [if_pos rfl]; exact hf.d
    · rw [if_neg e]
  have hc : ∀ j, ((o.upd k s).at j).c = (o.at j).c := fun j => by
    rw [M.upd_at hk]; by_cases e : j = k
    · subst e; rw [if_pos rfl]; exact hf.c
    · rw [if_neg e]
  have hod : ∀ j, ((o.upd k s).at j).od = true → (o.at j).od = true := fun j => by
    rw [M.upd_at hk]; by_cases e : j = k
    · subst e; rw [if_pos rfl]; exact hf.od
    · rw [if_neg e]; exact id
  have hoc : ∀ j, ((o.upd k s).at j).oc = true → (o.at j).oc = true := fun j => by
    rw [M.upd_at hk]; by_cases e : j = k
    · subst e; rw [if_pos rfl]; exact hf.oc
    · rw [if_neg e]; exact id
  have hcd : ∀ j, ((o.upd k s).at j).cd = (o.at j).cd ∨ j = k ∧ ((o.upd k s).at j).cd = (o.at j).d ∧ (o.at j).od = false := fun j => by
    rw [M.upd_at hk]; by_cases e : j = k
    · subst e; rw [if_pos rfl]; exact hf.cd.imp id fun h => ⟨rfl, h⟩
    · rw [if_neg e]; exact .inl rfl
  have hcc : ∀ j, ((o.upd k s).at j).cc = (o.at j).cc ∨ j = k ∧ ((o.upd k s).at j).cc = (o.at j).c ∧ (o.at j).oc = false := fun j => by
    rw [M.upd_at hk]; by_cases e : j = k
    · subst e; rw [if_pos rfl]; exact hf.cc.imp id fun h => ⟨rfl, h⟩
    · rw [if_neg e]; exact .inl rfl
  have hr : ∀ j, ((o.upd k s).at j).r = (o.at j).r := fun j => by
    rw [M.upd_at hk]; by_cases e : j = k
    · subst e; rw [if_pos rfl]; exact hf.r
    · rw [if_neg e]
  refine ⟨fun hn => h.mb (by rw [M.upd_len] at hn; exact hn), fun p hp => h.pm p (M.fd_pg hk hf hp), fun i j hi hj ho => ?_, fun i j p hi hj ho hp => ?_, fun i hi => ?_, fun p hp => h.by_ p (M.fd_pg hk hf hp), fun i hi => ?_⟩
  · rw [M.upd_len] at hi hj
    have ho' := hod i ho
    have q := h.od i j hi hj ho'
    rw [hd i, hd j, hc j]
    refine ⟨q.1, q.2.1, ?_, ?_⟩
    · rcases hcd j with e | ⟨e0, e, e2⟩
      · rw [e]; exact q.2.2.1
      · rw [e]; intro e3
        have := q.1 e3
        subst this; rw [e2] at ho'; cases ho'
    · rcases hcc j with e | ⟨e0, e, e2⟩
      · rw [e]; exact q.2.2.2
      · rw [e]; exact q.2.1
  · rw [M.upd_len] at hi hj
    have ho' := hoc i ho
    rw [hc i] at hp
    have q := h.oc i j p hi hj ho' hp
    rw [hd j, hc j]
    refine ⟨q.1, q.2.1, ?_, ?_⟩
    · rcases hcd j with e | ⟨e0, e, e2⟩
      · rw [e]; exact q.2.2.1
      · rw [e]; exact q.2.1
    · rcases hcc j with e | ⟨e0, e, e2⟩
      · rw [e]; exact q.2.2.2
      · rw [e]; intro e3
        have := q.1 e3
        subst this; rw [e2] at ho'; cases ho'
  · rw [M.upd_len] at hi
    rw [hc i]
    refine ⟨(h.co i hi).1, ?_⟩
    rcases hcc i with e | ⟨_, e, _⟩
    · rw [e]; exact (h.co i hi).2
    · rw [e]; exact (h.co i hi).1
  · rw [M.upd_len] at hi
    rw [hr]; exact h.rb i hi
theorem M.St.fd {o : M.Obj} {w : World} (h : M.St o w) {k f : Nat} (hk : k < o.sl.length) (hf7 : f < 7) {v : Value} {s : M.Slot} (he : s.cells = (o.at k).cells.set f v) (hf : M.Fd (o.at k) s) (j : Nat) (hj : j = k * 7 + f) : M.St (o.upd k s) (w.setCell ⟨o.b, j, none⟩ v) := by
  refine ⟨h.at_.fset (h.inv.mb (by omega)) hk hf7 he j hj fun p hp => ⟨(h.inv.pm p (M.fd_pg hk hf hp)).2, h.at_.pg p (M.fd_pg hk hf hp)⟩, h.inv.fd hk hf, fun x hx y => M.frozen_set.trans (h.fz x ?_ y)⟩
  rcases hx with hx | ⟨hn, hx⟩ | hx
  · exact .inl hx
  · exact .inr (.inl ⟨by rw [M.upd_len] at hn; exact hn, hx⟩)
  · exact .inr (.inr (M.fd_pg hk hf hx))
theorem M.Nxt.fd (w : World) {o : M.Obj} {k : Nat} {s : M.Slot} (hk : k < o.sl.length) (hf : M.Fd (o.at k) s) : M.Nxt w o (o.upd k s) := by
  refine ⟨rfl, M.upd_len, rfl, fun x _ h => ?_, fun x _ h => ?_⟩
  · rcases h with ⟨hn, h⟩ | ⟨i, hi, ho, h⟩ | ⟨i, hi, ho, h⟩
    · exact .inl ⟨by rw [M.upd_len] at hn; exact hn, h⟩
    · rw [M.upd_len] at hi
      rw [M.upd_at hk] at ho h
      by_cases e : i = k
      · subst e; rw [if_pos rfl] at ho h; exact .inr (.inl ⟨i, hi, hf.od ho, h.trans hf.d⟩)
      · rw [if_neg e] at ho h; exact .inr (.inl ⟨i, hi, ho, h⟩)
    · rw [M.upd_len] at hi
      rw [M.upd_at hk] at ho h
      by_cases e : i = k
      · subst e; rw [if_pos rfl] at ho h; exact .inr (.inr ⟨i, hi, hf.oc ho, hf.c.symm.trans h⟩)
      · rw [if_neg e] at ho h; exact .inr (.inr ⟨i, hi, ho, h⟩)
  · rcases h with h | ⟨hn, h⟩ | h
    · exact .inl h
    · exact .inr (.inl ⟨by rw [M.upd_len] at hn; exact hn, h⟩)
    · exact .inr (.inr (M.fd_pg hk hf h))
theorem R.ok_n {V : M.V} {a : Nat} {r : Int} (h : V.ok a r = true) : a / 256 < V.n := by
  unfold M.V.ok at h
  rw [Bool.and_eq_true] at h
  exact of_decide_eq_true h.1
theorem R.chk_ok {V : M.V} {a : Nat} {r : Int} (m : Nat) : ∀ i, (V.chkN a r i m).2 = true → ∀ j, i ≤ j → j < i + m → (a + j) % 4294967296 / 256 < V.n := by
  induction m with
  | zero => intro i _ j h1 h2; omega
  | succ m ih =>
    intro i h j h1 h2
    rw [M.chkN_s] at h
    cases hb : V.ok ((a + i) % 4294967296) r with
    | false => rw [hb] at h; cases h
    | true =>
      rw [hb] at h
      by_cases e : j = i
      · subst e; exact R.ok_n hb
      · exact ih (i + 1) h j (by omega) (by omega)
theorem R.load_t {V : M.V} {a m : Nat} (h : (V.chk a 1 ((m : Nat) : Int)).2 = true) : V.load a ((m : Nat) : Int) = (V.ldv a m m, 0, true) := by
  unfold M.V.load; rw [if_pos h]; rfl
theorem R2.pre (s : ByteArray) (m : Nat) (h1 : 0 < m) (h2 : m ≤ s.size) (hn : (m : Int) = R2.Size (W.byt s.data.toList 0)) : 0 < (s.extract 0 m).size ∧ ((s.extract 0 m).size : Int) = R2.Size (W.byt (s.extract 0 m).data.toList 0) := by
  have e : (s.extract 0 m).size = m := by rw [ByteArray.size_extract]; omega
  rw [e, R2.byt_extract s m 0 h1 h2]
  exact ⟨h1, hn⟩
def K.ends (i : K.Ins) : Bool := (K.inAny i.op [(1, 4), (20, 21), (96, 109), (112, 113), (128, 128)])
end Go.Proofs.YtglidnmmeclneaaGreat
