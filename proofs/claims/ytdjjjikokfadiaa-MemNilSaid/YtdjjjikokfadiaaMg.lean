/- mem: a page of one's own, and a byte that is set in it. No condition. -/
import Derived.Test.YtdjjjikokfadiaaMf
namespace Go.Proofs.Ytdjjjikokfadiaa
set_option linter.unusedVariables false
set_option linter.unusedSimpArgs false
open Go.RowKit
def M.pgv (f : Nat → Int) : List Value := (List.range 256).map fun i => .int .u8 (f i)
theorem M.pgv_at (f : Nat → Int) {i : Nat} (h : i < 256) : (M.pgv f)[i]? = some (.int .u8 (f i)) := by simp [M.pgv, h]
theorem M.pgv_len (f : Nat → Int) : (M.pgv f).length = 256 := by simp [M.pgv]
theorem M.loadPage {o : M.Obj} {w : World} {fr : E.Fr} {d : Option Nat} {T : TypeId} {pos : String} {af : Array Edge} {gd : Option (Nat × Bool)} {x : Operand} {p : Nat} (h : M.At o w) (hp : M.Pg o.sl p) (hx : E.ev fr x = .pointer (some ⟨p, 0, none⟩)) :
    (execOp (E.ev fr) ⟨d, .load 72 x, T, pos, af, gd⟩).run Try.prog w = .ok (.value (.agg (M.pgv (o.C p)).toArray)) w := by
  have hl := E.run_loadFrom (P := Try.prog) w p (M.pgv (o.C p)) 0 0 #[] (fun k v hk => by
    have hlt : k < 256 := by have := (List.getElem?_eq_some_iff.1 hk).1; rw [M.pgv_len] at this; exact this
    rw [M.pgv_at _ hlt] at hk
    rw [show 0 + 0 + k = k by omega]
    rw [← hk]; exact h.pg p hp k hlt)
  rw [M.pgv_len] at hl
  have hu : Try.prog.underlying 72 = some (.array 256 5) := Try.underlying72
  have ha : (isAgg 72).run Try.prog w = .ok true w := by simp [isAgg, underlying, hu]
  have hs : (sizeOf 72).run Try.prog w = .ok 256 w := by
    have hi : (Try.prog.info? 72).map (·.size) = some 256 := by kernel_rfl
    cases hi0 : Try.prog.info? 72 with
    | none => rw [hi0] at hi; cases hi
    | some i => rw [hi0] at hi; simp [sizeOf, typeInfo, hi0]; simpa using hi
  show (do let r ← Instr.loadAt 72 (E.ev fr x); pure (Next.value r) : Sem Next).run Try.prog w = _
  rw [hx]
  simp [Instr.loadAt, Instr.sureAddr, loadVar, ha, hs, loadCells, hl]
/-- Behind the first store: the page g, a copy, is the content of page k. -/
def M.own1 (o : M.Obj) (k g : Nat) : M.Obj := { o.upd k { o.at k with d := g } with C := fun q => if q = g then o.C (o.at k).d else o.C q }
def M.own2 (o : M.Obj) (k g : Nat) : M.Obj := (M.own1 o k g).upd k { (M.own1 o k g).at k with od := true }
theorem M.own1_len {o : M.Obj} {k g : Nat} : (M.own1 o k g).sl.length = o.sl.length := M.upd_len
theorem M.own1_at {o : M.Obj} {k g : Nat} (hk : k < o.sl.length) (j : Nat) : (M.own1 o k g).at j = if j = k then { o.at k with d := g } else o.at j := M.upd_at hk j
theorem M.own2_len {o : M.Obj} {k g : Nat} : (M.own2 o k g).sl.length = o.sl.length := M.upd_len.trans M.own1_len
theorem M.own2_at {o : M.Obj} {k g : Nat} (hk : k < o.sl.length) (j : Nat) : (M.own2 o k g).at j = if j = k then { o.at k with d := g, od := true } else o.at j := by
  unfold M.own2
  rw [M.upd_at (by rw [M.own1_len]; exact hk), M.own1_at hk, M.own1_at hk]
  by_cases h : j = k
  · simp [h]
  · simp [h]
theorem M.own1_pg {o : M.Obj} {k g p : Nat} (hk : k < o.sl.length) (h : M.Pg (M.own1 o k g).sl p) : p = g ∨ M.Pg o.sl p := by
  obtain ⟨j, hj, hp⟩ := h
  rw [M.own1_len] at hj
  have hp : p = ((M.own1 o k g).at j).d ∨ ((M.own1 o k g).at j).c = some p ∨ p = ((M.own1 o k g).at j).cd ∨ ((M.own1 o k g).at j).cc = some p := hp
  rw [M.own1_at hk] at hp
  by_cases e : j = k
  · subst e
    rw [if_pos rfl] at hp
    rcases hp with hp | hp | hp | hp
    · exact .inl hp
    · exact .inr ⟨j, hj, .inr (.inl hp)⟩
    · exact .inr ⟨j, hj, .inr (.inr (.inl hp))⟩
    · exact .inr ⟨j, hj, .inr (.inr (.inr hp))⟩
  · rw [if_neg e] at hp; exact .inr ⟨j, hj, hp⟩
theorem M.St.own1 {S : Nat → Prop} {o : M.Obj} {w0 w : World} {X : World → Prop} {L : List (Nat × List Value)} (h : E.Hp S w0 X L w) (hX : ∀ w, X w → M.St o w) {i k g : Nat} (hk : k < o.sl.length) (hod : (o.at k).od = false) (hL : L[i]? = some (g, M.pgv (o.C (o.at k).d))) (j : Nat) (hj : j = k * 7 + 0) :
    M.St (M.own1 o k g) (w.setCell ⟨o.b, j, none⟩ (.pointer (some ⟨g, 0, none⟩))) := by
  have hne : ∀ {x : Nat}, M.all o x → x ≠ g := fun hx => M.apart h hX hL hx
  have hs := hX w h.x
  have hpg : ∀ {p : Nat}, M.Pg o.sl p → p ≠ g := fun hp => hne (.inr (.inr hp))
  have hb : o.b ≠ g := hne (M.all_b (by omega))
  have h0 : M.At { o with C := fun q => if q = g then o.C (o.at k).d else o.C q } w :=
    ⟨hs.at_.c0, hs.at_.c1, hs.at_.ha, hs.at_.cs, fun p hp x hx => by
      show _ = some (Value.int .u8 ((if p = g then o.C (o.at k).d else o.C p) x))
      rw [if_neg (hpg hp)]; exact hs.at_.pg p hp x hx, hs.at_.lt⟩
  have hC : ∀ p, p ≠ g → (M.own1 o k g).C p = o.C p := fun p hp => if_neg hp
  have hCg : (M.own1 o k g).C g = o.C (o.at k).d := if_pos rfl
  refine ⟨h0.fset (s := { o.at k with d := g }) (hs.inv.mb (by omega)) hk (by decide) rfl j hj fun p hp => ?_, ?_, fun x hx y => M.frozen_set.trans ?_⟩
  · rcases M.own1_pg hk hp with rfl | hp
    · refine ⟨Ne.symm hb, fun x hx => ?_⟩
      show _ = some (Value.int .u8 ((if p = p then o.C (o.at k).d else o.C p) x))
      rw [if_pos rfl]; exact h.cell i hL (M.pgv_at _ hx)
    · exact ⟨(hs.inv.pm p hp).2, fun x hx => h0.pg p hp x hx⟩
  · refine ⟨fun hn => hs.inv.mb (by omega), fun p hp => ?_, fun a b ha hb2 hod2 => ?_, fun a b p ha hb2 hoc hc => ?_, fun a ha => ?_, fun p hp x hx => ?_, fun a ha => ?_⟩
    · rcases M.own1_pg hk hp with rfl | hp
      · exact ⟨Ne.symm (hne (.inl rfl)), Ne.symm hb⟩
      · exact hs.inv.pm p hp
    · rw [M.own1_len] at ha hb2
      rw [M.own1_at hk] at hod2 ⊢
      rw [M.own1_at hk]
      by_cases ea : a = k
      · subst ea; rw [if_pos rfl] at hod2; rw [hod] at hod2; cases hod2
      · rw [if_neg ea] at hod2 ⊢
        have hi := hs.inv.od a b ha hb2 hod2
        by_cases eb : b = k
        · subst eb; rw [if_pos rfl]
          exact ⟨fun e => absurd e.symm (hpg (M.pg_d ha)), hi.2.1, hi.2.2.1, hi.2.2.2⟩
        · rw [if_neg eb]; exact hi
    · rw [M.own1_len] at ha hb2
      rw [M.own1_at hk] at hoc hc ⊢
      have hoc' : (o.at a).oc = true := by
        by_cases ea : a = k
        · subst ea; rw [if_pos rfl] at hoc; exact hoc
        · rw [if_neg ea] at hoc; exact hoc
      have hc' : (o.at a).c = some p := by
        by_cases ea : a = k
        · subst ea; rw [if_pos rfl] at hc; exact hc
        · rw [if_neg ea] at hc; exact hc
      have hi := hs.inv.oc a b p ha hb2 hoc' hc'
      by_cases eb : b = k
      · subst eb; rw [if_pos rfl]
        exact ⟨hi.1, fun e => hpg (M.pg_c ha hc') e.symm, hi.2.2.1, hi.2.2.2⟩
      · rw [if_neg eb]; exact hi
    · rw [M.own1_len] at ha
      rw [M.own1_at hk]
      by_cases ea : a = k
      · subst ea; rw [if_pos rfl]; exact hs.inv.co a ha
      · rw [if_neg ea]; exact hs.inv.co a ha
    · rcases M.own1_pg hk hp with rfl | hp
      · rw [hCg]; exact hs.inv.by_ _ (M.pg_d hk) x hx
      · rw [hC p (hpg hp)]; exact hs.inv.by_ p hp x hx
    · rw [M.own1_len] at ha
      rw [M.own1_at hk]
      by_cases ea : a = k
      · subst ea; rw [if_pos rfl]; exact hs.inv.rb a ha
      · rw [if_neg ea]; exact hs.inv.rb a ha
  · rcases hx with rfl | ⟨hn, rfl⟩ | hx
    · exact hs.fz _ (.inl rfl) y
    · exact hs.fz _ (M.all_b (by omega)) y
    · rcases M.own1_pg hk hx with rfl | hx
      · exact h.fz _ (List.mem_of_getElem? hL) y
      · exact hs.fz _ (.inr (.inr hx)) y
theorem M.own2_pg {o : M.Obj} {k g p : Nat} (hk : k < o.sl.length) (h : M.Pg (M.own2 o k g).sl p) : M.Pg (M.own1 o k g).sl p := by
  obtain ⟨j, hj, hp⟩ := h
  rw [M.own2_len] at hj
  refine ⟨j, by rw [M.own1_len]; exact hj, ?_⟩
  show p = ((M.own1 o k g).at j).d ∨ ((M.own1 o k g).at j).c = some p ∨ p = ((M.own1 o k g).at j).cd ∨ ((M.own1 o k g).at j).cc = some p
  have hp : p = ((M.own2 o k g).at j).d ∨ ((M.own2 o k g).at j).c = some p ∨ p = ((M.own2 o k g).at j).cd ∨ ((M.own2 o k g).at j).cc = some p := hp
  rw [M.own2_at hk] at hp
  rw [M.own1_at hk]
  by_cases e : j = k
  · subst e; rw [if_pos rfl] at hp ⊢; exact hp
  · rw [if_neg e] at hp ⊢; exact hp
theorem M.St.own2 {o : M.Obj} {w : World} {k g : Nat} (h : M.St (M.own1 o k g) w) (hpg : ∀ p, M.Pg o.sl p → p ≠ g) (hk : k < o.sl.length) (j : Nat) (hj : j = k * 7 + 2) :
    M.St (M.own2 o k g) (w.setCell ⟨o.b, j, none⟩ (.bool true)) := by
  have hk1 : k < (M.own1 o k g).sl.length := by rw [M.own1_len]; exact hk
  refine ⟨h.at_.fset (o := M.own1 o k g) (s := { (M.own1 o k g).at k with od := true }) (h.inv.mb (by omega)) hk1 (by decide) rfl j hj fun p hp => ⟨(h.inv.pm p (M.own2_pg hk hp)).2, h.at_.pg p (M.own2_pg hk hp)⟩, ?_, fun x hx y => M.frozen_set.trans ?_⟩
  · refine ⟨fun hn => h.inv.mb (by omega), fun p hp => h.inv.pm p (M.own2_pg hk hp), fun a b ha hb hod => ?_, fun a b p ha hb hoc hc => ?_, fun a ha => ?_, fun p hp x hx => h.inv.by_ p (M.own2_pg hk hp) x hx, fun a ha => ?_⟩
    · rw [M.own2_len] at ha hb
      rw [M.own2_at hk] at hod ⊢
      rw [M.own2_at hk]
      by_cases ea : a = k
      · subst ea
        rw [if_pos rfl]
        have hc : ∀ {x : Option Nat} {q : Nat}, x = some q → M.Pg o.sl q → x ≠ some g := fun e hq e2 => hpg _ hq (Option.some.inj (e.symm.trans e2))
        by_cases eb : b = a
        · subst eb; rw [if_pos rfl]
          exact ⟨fun _ => rfl, fun e => hpg _ (M.pg_c hb e) rfl, hpg _ (M.pg_cd hb), fun e => hpg _ (M.pg_cc hb e) rfl⟩
        · rw [if_neg eb]
          exact ⟨fun e => absurd e (hpg _ (M.pg_d hb)), fun e => hpg _ (M.pg_c hb e) rfl, hpg _ (M.pg_cd hb), fun e => hpg _ (M.pg_cc hb e) rfl⟩
      · rw [if_neg ea] at hod ⊢
        have hi := h.inv.od a b (by rw [M.own1_len]; exact ha) (by rw [M.own1_len]; exact hb) (by rw [M.own1_at hk, if_neg ea]; exact hod)
        rw [M.own1_at hk, M.own1_at hk, if_neg ea] at hi
        by_cases eb : b = k
        · subst eb; rw [if_pos rfl] at hi ⊢; exact hi
        · rw [if_neg eb] at hi ⊢; exact hi
    · rw [M.own2_len] at ha hb
      have hi := h.inv.oc a b p (by rw [M.own1_len]; exact ha) (by rw [M.own1_len]; exact hb)
        (by rw [M.own2_at hk] at hoc; rw [M.own1_at hk]; by_cases ea : a = k
            · subst ea; rw [if_pos rfl] at hoc ⊢; exact hoc
            · rw [if_neg ea] at hoc ⊢; exact hoc)
        (by rw [M.own2_at hk] at hc; rw [M.own1_at hk]; by_cases ea : a = k
            · subst ea; rw [if_pos rfl] at hc ⊢; exact hc
            · rw [if_neg ea] at hc ⊢; exact hc)
      rw [M.own1_at hk] at hi
      rw [M.own2_at hk]
      by_cases eb : b = k
      · subst eb; rw [if_pos rfl] at hi ⊢; exact hi
      · rw [if_neg eb] at hi ⊢; exact hi
    · rw [M.own2_len] at ha
      have hi := h.inv.co a (by rw [M.own1_len]; exact ha)
      rw [M.own1_at hk] at hi
      rw [M.own2_at hk]
      by_cases ea : a = k
      · subst ea; rw [if_pos rfl] at hi ⊢; exact hi
      · rw [if_neg ea] at hi ⊢; exact hi
    · rw [M.own2_len] at ha
      have hi := h.inv.rb a (by rw [M.own1_len]; exact ha)
      rw [M.own1_at hk] at hi
      rw [M.own2_at hk]
      by_cases ea : a = k
      · subst ea; rw [if_pos rfl] at hi ⊢; exact hi
      · rw [if_neg ea] at hi ⊢; exact hi
  · rcases hx with rfl | ⟨hn, rfl⟩ | hx
    · exact h.fz _ (.inl rfl) y
    · exact h.fz _ (M.all_b (by omega)) y
    · exact h.fz _ (.inr (.inr (M.own2_pg hk hx))) y
/-- A byte of an own page is set. -/
def M.byte (o : M.Obj) (p y : Nat) (v : Int) : M.Obj := { o with C := fun q z => if q = p ∧ z = y then v else o.C q z }
theorem M.St.byte {o : M.Obj} {w : World} (h : M.St o w) {p y : Nat} {v : Int} (hp : M.Pg o.sl p) (hy : y < 256) (hv : 0 ≤ v ∧ v < 256) (j : Nat) (hj : j = y) : M.St (M.byte o p y v) (w.setCell ⟨p, j, none⟩ (.int .u8 v)) := by
  subst hj
  have oth : ∀ {a : Addr} {u : Value}, a ≠ ⟨p, j, none⟩ → w.cell? a = some u → (w.setCell ⟨p, j, none⟩ (.int .u8 v)).cell? a = some u := fun {a u} hn ha => (World.cell?_setCell_other w ⟨p, j, none⟩ a _ (fun e => hn e.symm)).trans ha
  have hm := h.inv.pm p hp
  refine ⟨⟨oth (fun e => hm.1 (Addr.mk.inj e).1.symm) h.at_.c0, oth (fun e => hm.1 (Addr.mk.inj e).1.symm) h.at_.c1, h.at_.ha, fun i u hu => oth (fun e => hm.2 (Addr.mk.inj e).1.symm) (h.at_.cs i u hu), fun q hq x hx => ?_, h.at_.lt⟩, ⟨h.inv.mb, h.inv.pm, h.inv.od, h.inv.oc, h.inv.co, fun q hq x hx => ?_, h.inv.rb⟩, fun x hx y => M.frozen_set.trans (h.fz x hx y)⟩
  · show _ = some (Value.int .u8 (if q = p ∧ x = j then v else o.C q x))
    by_cases e : q = p ∧ x = j
    · obtain ⟨rfl, rfl⟩ := e
      rw [if_pos ⟨rfl, rfl⟩]
      exact World.cell?_setCell_same w _ _ (h.at_.pg _ hq _ hx)
    · rw [if_neg e]
      exact oth (fun e2 => e ⟨(Addr.mk.inj e2).1, (Addr.mk.inj e2).2.1⟩) (h.at_.pg q hq x hx)
  · show 0 ≤ (if q = p ∧ x = j then v else o.C q x) ∧ (if q = p ∧ x = j then v else o.C q x) < 256
    by_cases e : q = p ∧ x = j
    · rw [if_pos e]; exact hv
    · rw [if_neg e]; exact h.inv.by_ q hq x hx
end Go.Proofs.Ytdjjjikokfadiaa
