/- mem: an own page for the image. No condition. -/
import Derived.Test.YtdjjjikokfadiaaMm
namespace Go.Proofs.Ytdjjjikokfadiaa
set_option linter.unusedVariables false
set_option linter.unusedSimpArgs false
open Go.RowKit
def M.code1 (o : M.Obj) (k g src : Nat) : M.Obj := { o.upd k { o.at k with c := some g } with C := fun q => if q = g then o.C src else o.C q }
def M.code2 (o : M.Obj) (k g src : Nat) : M.Obj := (M.code1 o k g src).upd k { (M.code1 o k g src).at k with oc := true }
theorem M.code1_len {o : M.Obj} {k g src : Nat} : (M.code1 o k g src).sl.length = o.sl.length := M.upd_len
theorem M.code1_at {o : M.Obj} {k g src : Nat} (hk : k < o.sl.length) (j : Nat) : (M.code1 o k g src).at j = if j = k then { o.at k with c := some g } else o.at j := M.upd_at hk j
theorem M.code2_len {o : M.Obj} {k g src : Nat} : (M.code2 o k g src).sl.length = o.sl.length := M.upd_len.trans M.code1_len
theorem M.code2_at {o : M.Obj} {k g src : Nat} (hk : k < o.sl.length) (j : Nat) : (M.code2 o k g src).at j = if j = k then { o.at k with c := some g, oc := true } else o.at j := by
  unfold M.code2
  rw [M.upd_at (by rw [M.code1_len]; exact hk), M.code1_at hk, M.code1_at hk]
  by_cases h : j = k
  · simp [h]
  · simp [h]
theorem M.code1_pg {o : M.Obj} {k g src p : Nat} (hk : k < o.sl.length) (h : M.Pg (M.code1 o k g src).sl p) : p = g ∨ M.Pg o.sl p := by
  obtain ⟨j, hj, hp⟩ := h
  rw [M.code1_len] at hj
  have hp : p = ((M.code1 o k g src).at j).d ∨ ((M.code1 o k g src).at j).c = some p ∨ p = ((M.code1 o k g src).at j).cd ∨ ((M.code1 o k g src).at j).cc = some p := hp
  rw [M.code1_at hk] at hp
  by_cases e : j = k
  · subst e
    rw [if_pos rfl] at hp
    rcases hp with hp | hp | hp | hp
    · exact .inr ⟨j, hj, .inl hp⟩
    · exact .inl (Option.some.inj hp).symm
    · exact .inr ⟨j, hj, .inr (.inr (.inl hp))⟩
    · exact .inr ⟨j, hj, .inr (.inr (.inr hp))⟩
  · rw [if_neg e] at hp; exact .inr ⟨j, hj, hp⟩
theorem M.code2_pg {o : M.Obj} {k g src p : Nat} (hk : k < o.sl.length) (h : M.Pg (M.code2 o k g src).sl p) : M.Pg (M.code1 o k g src).sl p := by
  obtain ⟨j, hj, hp⟩ := h
  rw [M.code2_len] at hj
  refine ⟨j, by rw [M.code1_len]; exact hj, ?_⟩
  show p = ((M.code1 o k g src).at j).d ∨ ((M.code1 o k g src).at j).c = some p ∨ p = ((M.code1 o k g src).at j).cd ∨ ((M.code1 o k g src).at j).cc = some p
  have hp : p = ((M.code2 o k g src).at j).d ∨ ((M.code2 o k g src).at j).c = some p ∨ p = ((M.code2 o k g src).at j).cd ∨ ((M.code2 o k g src).at j).cc = some p := hp
  rw [M.code2_at hk] at hp
  rw [M.code1_at hk]
  by_cases e : j = k
  · subst e; rw [if_pos rfl] at hp ⊢; exact hp
  · rw [if_neg e] at hp ⊢; exact hp
/-- Both objects have the same pages but for the image of page k, which is g. -/
structure M.Cod (o o' : M.Obj) (k g : Nat) : Prop where
  n : o'.sl.length = o.sl.length
  m : o'.m = o.m
  b : o'.b = o.b
  coh : o'.coh = o.coh
  d : ∀ j, (o'.at j).d = (o.at j).d
  od : ∀ j, (o'.at j).od = (o.at j).od
  cd : ∀ j, (o'.at j).cd = (o.at j).cd
  cc : ∀ j, (o'.at j).cc = (o.at j).cc
  r : ∀ j, (o'.at j).r = (o.at j).r
  ck : (o'.at k).c = some g
  c : ∀ j, j ≠ k → (o'.at j).c = (o.at j).c ∧ (o'.at j).oc = (o.at j).oc
theorem M.Cod.inv {o o' : M.Obj} {k g : Nat} (h : M.Cod o o' k g) (hi : M.Inv o) (hk : k < o.sl.length) (hcoh : o.coh = false) (hpg : ∀ p, M.Pg o.sl p → p ≠ g) (hgb : g ≠ o.m ∧ g ≠ o.b) (hp : ∀ p, M.Pg o'.sl p → p = g ∨ M.Pg o.sl p) (hC : ∀ p, M.Pg o'.sl p → ∀ i, i < 256 → 0 ≤ o'.C p i ∧ o'.C p i < 256) : M.Inv o' := by
  refine ⟨fun hn => by rw [h.m, h.b]; exact hi.mb (by omega), fun p hq => ?_, fun a b ha hb hod => ?_, fun a b p ha hb hoc hc => ?_, fun a ha => ?_, hC, fun a ha => ?_⟩
  · rw [h.m, h.b]
    rcases hp p hq with rfl | hq
    · exact hgb
    · exact hi.pm p hq
  · rw [h.n] at ha hb
    rw [h.od] at hod
    have hx := hi.od a b ha hb hod
    rw [h.d, h.d, h.cd, h.cc]
    refine ⟨hx.1, ?_, hx.2.2.1, hx.2.2.2⟩
    by_cases e : b = k
    · subst e; rw [h.ck]; exact fun e2 => hpg _ (M.pg_d ha) (Option.some.inj e2).symm
    · rw [(h.c b e).1]; exact hx.2.1
  · rw [h.n] at ha hb
    rw [h.d, h.cd, h.cc]
    by_cases ea : a = k
    · subst ea
      rw [h.ck] at hc
      obtain rfl := Option.some.inj hc
      refine ⟨fun e2 => ?_, hpg _ (M.pg_d hb), hpg _ (M.pg_cd hb), fun e2 => hpg _ (M.pg_cc hb e2) rfl⟩
      by_cases eb : b = a
      · exact eb
      · rw [(h.c b eb).1] at e2; exact absurd rfl (hpg _ (M.pg_c hb e2))
    · rw [(h.c a ea).1] at hc
      rw [(h.c a ea).2] at hoc
      have hx := hi.oc a b p ha hb hoc hc
      refine ⟨?_, hx.2⟩
      by_cases eb : b = k
      · subst eb; rw [h.ck]; exact fun e2 => absurd (Option.some.inj e2).symm (hpg _ (M.pg_c ha hc))
      · rw [(h.c b eb).1]; exact hx.1
  · rw [h.n] at ha
    have hx := hi.co a ha
    rw [h.cc, h.coh]
    refine ⟨?_, hx.2⟩
    by_cases e : a = k
    · subst e; rw [h.ck, hcoh]; rfl
    · rw [(h.c a e).1]; exact hx.1
  · rw [h.n] at ha
    rw [h.r]; exact hi.rb a ha
theorem M.code1_cod {o : M.Obj} {k g src : Nat} (hk : k < o.sl.length) : M.Cod o (M.code1 o k g src) k g := by
  have t : ∀ {α : Type} (f : M.Slot → α), f { o.at k with c := some g } = f (o.at k) → ∀ j, f ((M.code1 o k g src).at j) = f (o.at j) := fun f hf j => by
    rw [M.code1_at hk]
    by_cases e : j = k
    · subst e; rw [if_pos rfl]; exact hf
    · rw [if_neg e]
  exact ⟨M.code1_len, rfl, rfl, rfl, t (·.d) rfl, t (·.od) rfl, t (·.cd) rfl, t (·.cc) rfl, t (·.r) rfl, by rw [M.code1_at hk, if_pos rfl], fun j e => by rw [M.code1_at hk, if_neg e]; exact ⟨rfl, rfl⟩⟩
theorem M.code2_cod {o : M.Obj} {k g src : Nat} (hk : k < o.sl.length) : M.Cod o (M.code2 o k g src) k g := by
  have t : ∀ {α : Type} (f : M.Slot → α), f { o.at k with c := some g, oc := true } = f (o.at k) → ∀ j, f ((M.code2 o k g src).at j) = f (o.at j) := fun f hf j => by
    rw [M.code2_at hk]
    by_cases e : j = k
    · subst e; rw [if_pos rfl]; exact hf
    · rw [if_neg e]
  exact ⟨M.code2_len, rfl, rfl, rfl, t (·.d) rfl, t (·.od) rfl, t (·.cd) rfl, t (·.cc) rfl, t (·.r) rfl, by rw [M.code2_at hk, if_pos rfl], fun j e => by rw [M.code2_at hk, if_neg e]; exact ⟨rfl, rfl⟩⟩
theorem M.St.code1 {S : Nat → Prop} {o : M.Obj} {w0 w : World} {X : World → Prop} {L : List (Nat × List Value)} (h : E.Hp S w0 X L w) (hX : ∀ w, X w → M.St o w) {i k g src : Nat} (hk : k < o.sl.length) (hcoh : o.coh = false) (hsrc : M.Pg o.sl src) (hL : L[i]? = some (g, M.pgv (o.C src))) (j : Nat) (hj : j = k * 7 + 1) :
    M.St (M.code1 o k g src) (w.setCell ⟨o.b, j, none⟩ (.pointer (some ⟨g, 0, none⟩))) := by
  have hne : ∀ {x : Nat}, M.all o x → x ≠ g := fun hx => M.apart h hX hL hx
  have hs := hX w h.x
  have hpg : ∀ p, M.Pg o.sl p → p ≠ g := fun p hp => hne (.inr (.inr hp))
  have hb : o.b ≠ g := hne (M.all_b (by omega))
  have h0 : M.At { o with C := fun q => if q = g then o.C src else o.C q } w :=
    ⟨hs.at_.c0, hs.at_.c1, hs.at_.ha, hs.at_.cs, fun p hp x hx => by
      show _ = some (Value.int .u8 ((if p = g then o.C src else o.C p) x))
      rw [if_neg (hpg p hp)]; exact hs.at_.pg p hp x hx, hs.at_.lt⟩
  have hC : ∀ p, p ≠ g → (M.code1 o k g src).C p = o.C p := fun p hp => if_neg hp
  have hCg : (M.code1 o k g src).C g = o.C src := if_pos rfl
  refine ⟨h0.fset (s := { o.at k with c := some g }) (hs.inv.mb (by omega)) hk (by decide) rfl j hj fun p hp => ?_, ?_, fun x hx y => M.frozen_set.trans ?_⟩
  · rcases M.code1_pg hk hp with rfl | hp
    · refine ⟨Ne.symm hb, fun x hx => ?_⟩
      show _ = some (Value.int .u8 ((if p = p then o.C src else o.C p) x))
      rw [if_pos rfl]; exact h.cell i hL (M.pgv_at _ hx)
    · exact ⟨(hs.inv.pm p hp).2, fun x hx => h0.pg p hp x hx⟩
  · refine (M.code1_cod hk).inv hs.inv hk hcoh hpg ⟨Ne.symm (hne (.inl rfl)), Ne.symm hb⟩ (fun p hp => M.code1_pg hk hp) fun p hp x hx => ?_
    rcases M.code1_pg hk hp with rfl | hp
    · rw [hCg]; exact hs.inv.by_ _ hsrc x hx
    · rw [hC p (hpg p hp)]; exact hs.inv.by_ p hp x hx
  · rcases hx with rfl | ⟨hn, rfl⟩ | hx
    · exact hs.fz _ (.inl rfl) y
    · exact hs.fz _ (M.all_b (by omega)) y
    · rcases M.code1_pg hk hx with rfl | hx
      · exact h.fz _ (List.mem_of_getElem? hL) y
      · exact hs.fz _ (.inr (.inr hx)) y
theorem M.St.code2 {o : M.Obj} {w : World} {k g src : Nat} (h : M.St (M.code1 o k g src) w) (hi : M.Inv o) (hpg : ∀ p, M.Pg o.sl p → p ≠ g) (hgb : g ≠ o.m ∧ g ≠ o.b) (hk : k < o.sl.length) (hcoh : o.coh = false) (j : Nat) (hj : j = k * 7 + 3) :
    M.St (M.code2 o k g src) (w.setCell ⟨o.b, j, none⟩ (.bool true)) := by
  have hk1 : k < (M.code1 o k g src).sl.length := by rw [M.code1_len]; exact hk
  refine ⟨h.at_.fset (o := M.code1 o k g src) (s := { (M.code1 o k g src).at k with oc := true }) (h.inv.mb (by omega)) hk1 (by decide) rfl j hj fun p hp => ⟨(h.inv.pm p (M.code2_pg hk hp)).2, h.at_.pg p (M.code2_pg hk hp)⟩, ?_, fun x hx y => M.frozen_set.trans ?_⟩
  · exact (M.code2_cod hk).inv hi hk hcoh hpg hgb (fun p hp => M.code1_pg hk (M.code2_pg hk hp)) fun p hp x hx => h.inv.by_ p (M.code2_pg hk hp) x hx
  · rcases hx with rfl | ⟨hn, rfl⟩ | hx
    · exact h.fz _ (.inl rfl) y
    · exact h.fz _ (M.all_b (by omega)) y
    · exact h.fz _ (.inr (.inr (M.code2_pg hk hx))) y
end Go.Proofs.Ytdjjjikokfadiaa
