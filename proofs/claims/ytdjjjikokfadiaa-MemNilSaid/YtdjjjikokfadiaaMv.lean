/- mem: a field of a page's state is set so that what is owned and spoken of grows not. No condition. -/
import Derived.Test.YtdjjjikokfadiaaMu
namespace Go.Proofs.Ytdjjjikokfadiaa
set_option linter.unusedVariables false
set_option linter.unusedSimpArgs false
open Go.RowKit
structure M.Fd (a s : M.Slot) : Prop where
  d : s.d = a.d
  c : s.c = a.c
  od : s.od = true → a.od = true
  oc : s.oc = true → a.oc = true
  cd : s.cd = a.cd ∨ s.cd = a.d ∧ a.od = false
  cc : s.cc = a.cc ∨ s.cc = a.c ∧ a.oc = false
  r : s.r = a.r
theorem M.fd_pg {o : M.Obj} {k : Nat} {s : M.Slot} (hk : k < o.sl.length) (hf : M.Fd (o.at k) s) {p : Nat} (h : M.Pg (o.upd k s).sl p) : M.Pg o.sl p := by
  obtain ⟨i, hi, hp⟩ := h
  rw [M.upd_len] at hi
  have hp : p = ((o.upd k s).at i).d ∨ ((o.upd k s).at i).c = some p ∨ p = ((o.upd k s).at i).cd ∨ ((o.upd k s).at i).cc = some p := hp
  rw [M.upd_at hk] at hp
  by_cases e : i = k
  · subst e
    rw [if_pos rfl] at hp
    rcases hp with hp | hp | hp | hp
    · exact ⟨i, hi, .inl (hp.trans hf.d)⟩
    · exact ⟨i, hi, .inr (.inl (hf.c.symm.trans hp))⟩
    · rcases hf.cd with e | ⟨e, _⟩
      · exact ⟨i, hi, .inr (.inr (.inl (hp.trans e)))⟩
      · exact ⟨i, hi, .inl (hp.trans e)⟩
    · rcases hf.cc with e | ⟨e, _⟩
      · exact ⟨i, hi, .inr (.inr (.inr (e.symm.trans hp)))⟩
      · exact ⟨i, hi, .inr (.inl (e.symm.trans hp))⟩
  · rw [if_neg e] at hp; exact ⟨i, hi, hp⟩
theorem M.Inv.fd {o : M.Obj} (h : M.Inv o) {k : Nat} {s : M.Slot} (hk : k < o.sl.length) (hf : M.Fd (o.at k) s) : M.Inv (o.upd k s) := by
  have hd : ∀ j, ((o.upd k s).at j).d = (o.at j).d := fun j => by
    rw [M.upd_at hk]; by_cases e : j = k
    · subst e; rw [if_pos rfl]; exact hf.d
    · rw [if_neg e]
  have hc : ∀ j, ((o.upd k s).at j).c = (o.at j).c := fun j => by
    rw [M.upd_at hk]; by_cases e : j = k
    · subst e; rw [if_pos rfl]; exact hf.c
    · rw [if_neg e]
  have hod : ∀ j, ((o.upd k s).at j).od = true → (o.at j).od = true := fun j => by
    rw [M.upd_at hk]; by_cases e : j = k
    · subst e; rw [if_pos rfl]; exact hf.od
    · rw [if_neg e]; exact id
  have hoc : ∀ j, ((o.upd k s).at j).oc = true → (o.at j).oc = true := fun j => by
    rw [M.upd_at hk]; by_cases e : j = k
    · subst e; rw [if_pos rfl]; exact hf.oc
    · rw [if_neg e]; exact id
  have hcd : ∀ j, ((o.upd k s).at j).cd = (o.at j).cd ∨ j = k ∧ ((o.upd k s).at j).cd = (o.at j).d ∧ (o.at j).od = false := fun j => by
    rw [M.upd_at hk]; by_cases e : j = k
    · subst e; rw [if_pos rfl]; exact hf.cd.imp id fun h => ⟨rfl, h⟩
    · rw [if_neg e]; exact .inl rfl
  have hcc : ∀ j, ((o.upd k s).at j).cc = (o.at j).cc ∨ j = k ∧ ((o.upd k s).at j).cc = (o.at j).c ∧ (o.at j).oc = false := fun j => by
    rw [M.upd_at hk]; by_cases e : j = k
    · subst e; rw [if_pos rfl]; exact hf.cc.imp id fun h => ⟨rfl, h⟩
    · rw [if_neg e]; exact .inl rfl
  have hr : ∀ j, ((o.upd k s).at j).r = (o.at j).r := fun j => by
    rw [M.upd_at hk]; by_cases e : j = k
    · subst e; rw [if_pos rfl]; exact hf.r
    · rw [if_neg e]
  refine ⟨fun hn => h.mb (by rw [M.upd_len] at hn; exact hn), fun p hp => h.pm p (M.fd_pg hk hf hp), fun i j hi hj ho => ?_, fun i j p hi hj ho hp => ?_, fun i hi => ?_, fun p hp => h.by_ p (M.fd_pg hk hf hp), fun i hi => ?_⟩
  · rw [M.upd_len] at hi hj
    have ho' := hod i ho
    have q := h.od i j hi hj ho'
    rw [hd i, hd j, hc j]
    refine ⟨q.1, q.2.1, ?_, ?_⟩
    · rcases hcd j with e | ⟨e0, e, e2⟩
      · rw [e]; exact q.2.2.1
      · rw [e]; intro e3
        have := q.1 e3
        subst this; rw [e2] at ho'; cases ho'
    · rcases hcc j with e | ⟨e0, e, e2⟩
      · rw [e]; exact q.2.2.2
      · rw [e]; exact q.2.1
  · rw [M.upd_len] at hi hj
    have ho' := hoc i ho
    rw [hc i] at hp
    have q := h.oc i j p hi hj ho' hp
    rw [hd j, hc j]
    refine ⟨q.1, q.2.1, ?_, ?_⟩
    · rcases hcd j with e | ⟨e0, e, e2⟩
      · rw [e]; exact q.2.2.1
      · rw [e]; exact q.2.1
    · rcases hcc j with e | ⟨e0, e, e2⟩
      · rw [e]; exact q.2.2.2
      · rw [e]; intro e3
        have := q.1 e3
        subst this; rw [e2] at ho'; cases ho'
  · rw [M.upd_len] at hi
    rw [hc i]
    refine ⟨(h.co i hi).1, ?_⟩
    rcases hcc i with e | ⟨_, e, _⟩
    · rw [e]; exact (h.co i hi).2
    · rw [e]; exact (h.co i hi).1
  · rw [M.upd_len] at hi
    rw [hr]; exact h.rb i hi
theorem M.St.fd {o : M.Obj} {w : World} (h : M.St o w) {k f : Nat} (hk : k < o.sl.length) (hf7 : f < 7) {v : Value} {s : M.Slot} (he : s.cells = (o.at k).cells.set f v) (hf : M.Fd (o.at k) s) (j : Nat) (hj : j = k * 7 + f) : M.St (o.upd k s) (w.setCell ⟨o.b, j, none⟩ v) := by
  refine ⟨h.at_.fset (h.inv.mb (by omega)) hk hf7 he j hj fun p hp => ⟨(h.inv.pm p (M.fd_pg hk hf hp)).2, h.at_.pg p (M.fd_pg hk hf hp)⟩, h.inv.fd hk hf, fun x hx y => M.frozen_set.trans (h.fz x ?_ y)⟩
  rcases hx with hx | ⟨hn, hx⟩ | hx
  · exact .inl hx
  · exact .inr (.inl ⟨by rw [M.upd_len] at hn; exact hn, hx⟩)
  · exact .inr (.inr (M.fd_pg hk hf hx))
theorem M.Nxt.fd (w : World) {o : M.Obj} {k : Nat} {s : M.Slot} (hk : k < o.sl.length) (hf : M.Fd (o.at k) s) : M.Nxt w o (o.upd k s) := by
  refine ⟨rfl, M.upd_len, rfl, fun x _ h => ?_, fun x _ h => ?_⟩
  · rcases h with ⟨hn, h⟩ | ⟨i, hi, ho, h⟩ | ⟨i, hi, ho, h⟩
    · exact .inl ⟨by rw [M.upd_len] at hn; exact hn, h⟩
    · rw [M.upd_len] at hi
      rw [M.upd_at hk] at ho h
      by_cases e : i = k
      · subst e; rw [if_pos rfl] at ho h; exact .inr (.inl ⟨i, hi, hf.od ho, h.trans hf.d⟩)
      · rw [if_neg e] at ho h; exact .inr (.inl ⟨i, hi, ho, h⟩)
    · rw [M.upd_len] at hi
      rw [M.upd_at hk] at ho h
      by_cases e : i = k
      · subst e; rw [if_pos rfl] at ho h; exact .inr (.inr ⟨i, hi, hf.oc ho, hf.c.symm.trans h⟩)
      · rw [if_neg e] at ho h; exact .inr (.inr ⟨i, hi, ho, h⟩)
  · rcases h with h | ⟨hn, h⟩ | h
    · exact .inl h
    · exact .inr (.inl ⟨by rw [M.upd_len] at hn; exact hn, h⟩)
    · exact .inr (.inr (M.fd_pg hk hf h))
theorem M.upd_upd {o : M.Obj} {k : Nat} {s t : M.Slot} : (o.upd k s).upd k t = o.upd k t := by
  unfold M.Obj.upd; simp
theorem M.upd_self {o : M.Obj} {k : Nat} (hk : k < o.sl.length) : o.upd k (o.at k) = o := by
  unfold M.Obj.upd M.Obj.at
  have : o.sl.set k (o.sl.getD k M.z) = o.sl := by
    refine List.ext_getElem? fun i => ?_
    rw [List.getElem?_set]
    by_cases e : k = i
    · subst e; simp [hk]
    · rw [if_neg e]
  rw [this]
/-- A store of one field, from one state of the page to the next. -/
theorem M.fd_sto {S : Nat → Prop} {w0 w : World} {o : M.Obj} {k : Nat} {s t : M.Slot} (f : Nat) {v : Value} (hk : k < o.sl.length) (h : E.Hp S w0 (fun w => M.St (o.upd k s) w) [] w) (hS : o.b < w0.heap.size → S o.b) (hf7 : f < 7) (he : t.cells = s.cells.set f v) (hf : M.Fd s t) (j : Nat) (hj : j = k * 7 + f) :
    w.frozen? ⟨o.b, j, none⟩ = false ∧ (∃ u, w.cell? ⟨o.b, j, none⟩ = some u) ∧ E.Hp S w0 (fun w => M.St (o.upd k t) w) [] (w.setCell ⟨o.b, j, none⟩ v) := by
  have hx := h.x
  have hk' : k < (o.upd k s).sl.length := by rw [M.upd_len]; exact hk
  have ha : (o.upd k s).at k = s := by rw [M.upd_at hk, if_pos rfl]
  have h1 := hx.fd hk' hf7 (v := v) (s := t) (by rw [ha]; exact he) (by rw [ha]; exact hf) j hj
  rw [M.upd_upd] at h1
  have hl : s.cells.length = 7 := rfl
  have hg : ((o.upd k s).at k).cells[f]? = some (s.cells[f]'(by rw [hl]; exact hf7)) := by rw [ha]; exact List.getElem?_eq_getElem _
  refine ⟨hx.fz _ (M.all_b (by rw [M.upd_len]; omega)) _, ⟨_, hx.at_.fld hk' hg hf7 j hj⟩, h1.hp (h.ch.setCell hS _)⟩
/-- The first c pages made clean. -/
def M.V.cln (V : M.V) (c : Nat) : M.V := { V with cd := fun j => if j < c then V.d j else V.cd j, ci := fun j => if j < c then V.i j else V.ci j }
def M.V.clean (V : M.V) : M.V := V.cln V.n
def M.clnS (s : M.Slot) : M.Slot := ⟨s.d, s.c, false, false, s.d, s.c, s.r⟩
theorem M.Sh.cln {o : M.Obj} {V : M.V} {k : Nat} (h : M.Sh o (V.cln k)) (hk : k < o.sl.length) : M.Sh (o.upd k (M.clnS (o.at k))) (V.cln (k + 1)) := by
  have hn : o.sl.length = V.n := h.n
  refine ⟨M.upd_len.trans h.n, h.coh, fun j hj x hx => ?_, fun j hj x hx => ?_, fun j hj x hx => ?_, fun j hj x hx => ?_, fun j hj => ?_⟩
  · rw [M.upd_at hk]; by_cases e : j = k
    · subst e; rw [if_pos rfl]; exact h.d j hj x hx
    · rw [if_neg e]; exact h.d j hj x hx
  · rw [M.upd_at hk]; by_cases e : j = k
    · subst e; rw [if_pos rfl]; exact h.i j hj x hx
    · rw [if_neg e]; exact h.i j hj x hx
  · rw [M.upd_at hk]; by_cases e : j = k
    · subst e; rw [if_pos rfl]
      show o.C (o.at j).d x = (if j < j + 1 then V.d j else V.cd j) x
      rw [if_pos (by omega)]; exact h.d j hj x hx
    · rw [if_neg e]
      have q : o.C (o.at j).cd x = (if j < k then V.d j else V.cd j) x := h.cd j hj x hx
      show o.C (o.at j).cd x = (if j < k + 1 then V.d j else V.cd j) x
      rw [q]
      by_cases e2 : j < k
      · rw [if_pos e2, if_pos (by omega)]
      · rw [if_neg e2, if_neg (by omega)]
  · rw [M.upd_at hk]; by_cases e : j = k
    · subst e; rw [if_pos rfl]
      show o.C ((o.at j).c.getD (o.at j).d) x = (if j < j + 1 then V.i j else V.ci j) x
      rw [if_pos (by omega)]; exact h.i j hj x hx
    · rw [if_neg e]
      have q : o.C ((o.at j).cc.getD (o.at j).cd) x = (if j < k then V.i j else V.ci j) x := h.ci j hj x hx
      show o.C ((o.at j).cc.getD (o.at j).cd) x = (if j < k + 1 then V.i j else V.ci j) x
      rw [q]
      by_cases e2 : j < k
      · rw [if_pos e2, if_pos (by omega)]
      · rw [if_neg e2, if_neg (by omega)]
  · rw [M.upd_at hk]; by_cases e : j = k
    · subst e; rw [if_pos rfl]; exact h.r j hj
    · rw [if_neg e]; exact h.r j hj
theorem M.V.cln0 (V : M.V) : V.cln 0 = V := by
  unfold M.V.cln; simp
end Go.Proofs.Ytdjjjikokfadiaa
