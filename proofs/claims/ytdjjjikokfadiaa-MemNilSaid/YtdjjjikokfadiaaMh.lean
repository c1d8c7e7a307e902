/- Walks: the writers of mem, second part, printed by wip/eng. No condition but what is named. -/
import Derived.Test.YtdjjjikokfadiaaProg
import Derived.Test.YtdjjjikokfadiaaMg
namespace Go.Proofs.Ytdjjjikokfadiaa
set_option linter.unusedVariables false
set_option linter.unusedSimpArgs false
open Go.RowKit
theorem M.St.hp2 {S : Nat → Prop} {o : M.Obj} {w0 w : World} {Y : Prop} (h : M.St o w) (hy : Y) (hc : Ch S w0 w) : E.Hp S w0 (fun u => M.St o u ∧ Y) [] w :=
  ⟨hc, by simp, by simp, by simp, by simp, by simp, fun w' _ hw => ⟨h.keep fun b hb => hw b hb (by simp), hy⟩⟩
/-- What an operation may do to the blocks of an object. -/
structure M.Nxt (w : World) (o o' : M.Obj) : Prop where
  m : o'.m = o.m
  n : o'.sl.length = o.sl.length
  coh : o'.coh = o.coh
  ow : ∀ x, x < w.heap.size → M.ow o' x → M.ow o x
  al : ∀ x, x < w.heap.size → M.all o' x → M.all o x
theorem M.Nxt.refl (w : World) (o : M.Obj) : M.Nxt w o o := ⟨rfl, rfl, rfl, fun _ _ h => h, fun _ _ h => h⟩
theorem M.Nxt.trans {w w' : World} {a b c : M.Obj} (h : M.Nxt w a b) (k : M.Nxt w' b c) (hs : w.heap.size ≤ w'.heap.size) : M.Nxt w a c :=
  ⟨k.m.trans h.m, k.n.trans h.n, k.coh.trans h.coh, fun x hx hc => h.ow x hx (k.ow x (Nat.lt_of_lt_of_le hx hs) hc), fun x hx hc => h.al x hx (k.al x (Nat.lt_of_lt_of_le hx hs) hc)⟩
/-- What a memory shows: number of pages, coherent, content, image, the same at the last Clean, rights. -/
structure M.V where
  n : Nat
  coh : Bool
  d : Nat → Nat → Int
  i : Nat → Nat → Int
  cd : Nat → Nat → Int
  ci : Nat → Nat → Int
  r : Nat → Int
structure M.Sh (o : M.Obj) (V : M.V) : Prop where
  n : o.sl.length = V.n
  coh : o.coh = V.coh
  d : ∀ j, j < V.n → ∀ x, x < 256 → o.C (o.at j).d x = V.d j x
  i : ∀ j, j < V.n → ∀ x, x < 256 → o.C (M.img (o.at j)) x = V.i j x
  cd : ∀ j, j < V.n → ∀ x, x < 256 → o.C (o.at j).cd x = V.cd j x
  ci : ∀ j, j < V.n → ∀ x, x < 256 → o.C ((o.at j).cc.getD (o.at j).cd) x = V.ci j x
  r : ∀ j, j < V.n → (o.at j).r = V.r j
theorem M.pg_ci {o : M.Obj} {i : Nat} (h : i < o.sl.length) : M.Pg o.sl ((o.at i).cc.getD (o.at i).cd) := by
  cases hc : (o.at i).cc with
  | none => exact M.pg_cd h
  | some p => exact M.pg_cc h hc
theorem M.Sh.own2 {o : M.Obj} {V : M.V} {k g : Nat} (h : M.Sh o V) (hk : k < o.sl.length) (hpg : ∀ p, M.Pg o.sl p → p ≠ g) : M.Sh (M.own2 o k g) V := by
  have hC : ∀ p, M.Pg o.sl p → (M.own2 o k g).C p = o.C p := fun p hp => if_neg (hpg p hp)
  have hg : (M.own2 o k g).C g = o.C (o.at k).d := if_pos rfl
  have hn : ∀ j, j < V.n → j < o.sl.length := fun j hj => h.n ▸ hj
  refine ⟨M.own2_len.trans h.n, h.coh, fun j hj x hx => ?_, fun j hj x hx => ?_, fun j hj x hx => ?_, fun j hj x hx => ?_, fun j hj => ?_⟩
  · rw [M.own2_at hk]
    by_cases e : j = k
    · subst e; rw [if_pos rfl]; show (M.own2 o j g).C g x = _; rw [hg]; exact h.d j hj x hx
    · rw [if_neg e, hC _ (M.pg_d (hn j hj))]; exact h.d j hj x hx
  · rw [M.own2_at hk]
    by_cases e : j = k
    · subst e; rw [if_pos rfl]
      have hi := h.i j hj x hx
      unfold M.img at hi ⊢
      cases hc : (o.at j).c with
      | none => rw [hc] at hi; show (M.own2 o j g).C g x = _; rw [hg]; exact hi
      | some p => rw [hc] at hi; show (M.own2 o j g).C p x = _; rw [hC p (M.pg_c (hn j hj) hc)]; exact hi
    · rw [if_neg e, hC _ (M.pg_img (hn j hj))]; exact h.i j hj x hx
  · rw [M.own2_at hk]
    by_cases e : j = k
    · subst e; rw [if_pos rfl]; show (M.own2 o j g).C (o.at j).cd x = _; rw [hC _ (M.pg_cd (hn j hj))]; exact h.cd j hj x hx
    · rw [if_neg e, hC _ (M.pg_cd (hn j hj))]; exact h.cd j hj x hx
  · rw [M.own2_at hk]
    by_cases e : j = k
    · subst e; rw [if_pos rfl]; show (M.own2 o j g).C ((o.at j).cc.getD (o.at j).cd) x = _; rw [hC _ (M.pg_ci (hn j hj))]; exact h.ci j hj x hx
    · rw [if_neg e, hC _ (M.pg_ci (hn j hj))]; exact h.ci j hj x hx
  · rw [M.own2_at hk]
    by_cases e : j = k
    · subst e; rw [if_pos rfl]; exact h.r j hj
    · rw [if_neg e]; exact h.r j hj
theorem M.Nxt.own2 {o : M.Obj} {w : World} {k g : Nat} (hk : k < o.sl.length) (hg : g < w.heap.size → M.ow o g) : M.Nxt w o (M.own2 o k g) := by
  refine ⟨rfl, M.own2_len, rfl, fun x hx h => ?_, fun x hx h => ?_⟩
  · rcases h with ⟨hn, h⟩ | ⟨i, hi, ho, h⟩ | ⟨i, hi, ho, h⟩
    · exact .inl ⟨by omega, h⟩
    · rw [M.own2_len] at hi
      rw [M.own2_at hk] at ho h
      by_cases e : i = k
      · subst e; rw [if_pos rfl] at h; obtain rfl := h; exact hg hx
      · rw [if_neg e] at ho h; exact .inr (.inl ⟨i, hi, ho, h⟩)
    · rw [M.own2_len] at hi
      rw [M.own2_at hk] at ho h
      by_cases e : i = k
      · subst e; rw [if_pos rfl] at ho h; exact .inr (.inr ⟨i, hi, ho, h⟩)
      · rw [if_neg e] at ho h; exact .inr (.inr ⟨i, hi, ho, h⟩)
  · rcases h with h | ⟨hn, h⟩ | h
    · exact .inl h
    · exact .inr (.inl ⟨by omega, h⟩)
    · rcases M.own1_pg hk (M.own2_pg hk h) with rfl | h
      · exact M.ow_all (hg hx)
      · exact .inr (.inr h)
theorem writable_any (o : M.Obj) (k : Nat) (hk : k < o.sl.length) (w : World) (hst : M.St o w) : Calls Try.prog 54 #[.pointer (some ⟨o.b, k * 7, none⟩)] w fun e w' => ∃ o', e = .returned (.pointer (some ⟨(o'.at k).d, 0, none⟩)) ∧ M.St o' w' ∧ Ch (fun x => M.ow o x) w w' ∧ M.Nxt w o o' ∧ (o'.at k).od = true ∧ ∀ V, M.Sh o V → M.Sh o' V := by
  refine E.enter (n := 25) (S := fun x => M.ow o x) Try.func54 rfl rfl (by kernel_rfl) (hst.hp (Ch.refl _ _)) ?_
  refine E.C.seq ?_
  refine E.C.region ?_
  refine E.G.op (.pointer none) (fun w => by kernel_rfl) (by kernel_rfl) ?_
  refine E.To.code ?_
  refine E.C.seq ?_
  refine E.C.seq ?_
  refine E.C.region ?_
  refine E.G.op (.pointer (some ⟨o.b, k * 7, none⟩)) (fun w => by kernel_rfl) (by kernel_rfl) ?_
  refine E.G.op (.pointer (some ⟨o.b, k * 7, none⟩)) (fun w => by kernel_rfl) (by kernel_rfl) ?_
  refine E.G.op (.pointer (some ⟨o.b, (k * 7) + 2, none⟩)) (fun w => by kernel_rfl) (by kernel_rfl) ?_
  refine E.G.val (.bool ((o.at k).od)) (by kernel_rfl) (fun w h => M.load1 (by kernel_rfl) (M.one Try.underlying4 rfl) (h.x.at_.fld (i := k) (k := 2) (by (first | assumption | ((try simp only [Bool.or_eq_false_iff, Bool.or_eq_true, Bool.and_eq_true, Bool.and_eq_false_iff, decide_eq_true_eq, decide_eq_false_iff_not, ge_iff_le, gt_iff_lt] at *); omega))) rfl (by decide) _ rfl)) ?_
  refine E.G.op (.bool (!((o.at k).od))) (fun w => by kernel_rfl) (by kernel_rfl) ?_
  refine E.To.code ?_
  refine E.C.cond (!((o.at k).od)) (by kernel_rfl) (by kernel_rfl) (fun hc1 => ?_) (fun hc1 => ?_)
  · skip
    refine E.C.seq ?_
    refine E.C.region ?_
    refine E.G.op (.pointer (some ⟨o.b, k * 7, none⟩)) (fun w => by kernel_rfl) (by kernel_rfl) ?_
    refine E.G.op (.pointer (some ⟨o.b, k * 7, none⟩)) (fun w => by kernel_rfl) (by kernel_rfl) ?_
    refine E.G.op (.pointer (some ⟨o.b, k * 7, none⟩)) (fun w => by kernel_rfl) (by kernel_rfl) ?_
    refine E.G.val (.pointer (some ⟨(o.at k).d, 0, none⟩)) (by kernel_rfl) (fun w h => M.load1 (by kernel_rfl) (M.one Try.underlying70 rfl) (h.x.at_.fld (i := k) (k := 0) (by (first | assumption | ((try simp only [Bool.or_eq_false_iff, Bool.or_eq_true, Bool.and_eq_true, Bool.and_eq_false_iff, decide_eq_true_eq, decide_eq_false_iff_not, ge_iff_le, gt_iff_lt] at *); omega))) rfl (by decide) _ rfl)) ?_
    refine E.G.op (.pointer (some ⟨(o.at k).d, 0, none⟩)) (fun w => by kernel_rfl) (by kernel_rfl) ?_
    refine E.G.val (.agg (M.pgv (o.C (o.at k).d)).toArray) (by kernel_rfl) (fun w h => M.loadPage h.x.at_ (M.pg_d hk) (by kernel_rfl)) ?_
    refine E.G.new (fun g => .pointer (some ⟨g, 0, none⟩)) (List.replicate 256 (.int .u8 0)) 72 (fun w => by kernel_rfl) (by kernel_rfl) (fun g2 => ?_)
    refine E.G.store 0 (M.pgv (o.C (o.at k).d)) rfl rfl (by kernel_rfl) (by kernel_rfl) ?_
    refine E.To.code ?_
    refine E.C.weak [(0, .pointer (some ⟨o.b, k * 7, none⟩)), (2, .pointer none), (3, .pointer (some ⟨g2, 0, none⟩))] [(g2, (M.pgv (o.C (o.at k).d)))] ⟨by kernel_rfl, by kernel_rfl⟩ (List.Sublist.refl _) ?_
    refine E.C.region ?_
    refine E.G.op (.pointer (some ⟨o.b, k * 7, none⟩)) (fun w => by kernel_rfl) (by kernel_rfl) ?_
    refine E.G.op (.pointer (some ⟨o.b, k * 7, none⟩)) (fun w => by kernel_rfl) (by kernel_rfl) ?_
    refine E.G.op (.pointer (some ⟨o.b, k * 7, none⟩)) (fun w => by kernel_rfl) (by kernel_rfl) ?_
    refine E.G.op (.pointer (some ⟨o.b, k * 7, none⟩)) (fun w => by kernel_rfl) (by kernel_rfl) ?_
    refine M.G.sto (.pointer (some ⟨g2, 0, none⟩)) (fun u => M.St (M.own1 o k g2) u ∧ ((∀ p, M.Pg o.sl p → p ≠ g2) ∧ (g2 < w.heap.size → M.ow o g2))) [] (by kernel_rfl) (by kernel_rfl) rfl rfl (by kernel_rfl) (fun u h => ⟨h.x.fz _ (M.all_b (by omega)) _, ⟨_, h.x.at_.fld (i := k) (k := 0) hk rfl (by decide) _ rfl⟩, (M.St.own1 h (fun _ h => h) hk (M.b0 hc1) (i := 0) rfl _ rfl).hp2 ⟨fun p hp => M.apart h (fun _ h => h) (k := 0) rfl (.inr (.inr hp)), h.own _ (List.mem_cons_self ..)⟩ (h.ch.setCell (fun _ => M.ow_b (by omega)) _)⟩) (by kernel_rfl) ?_
    refine E.G.op (.pointer (some ⟨o.b, k * 7, none⟩)) (fun w => by kernel_rfl) (by kernel_rfl) ?_
    refine E.G.op (.pointer (some ⟨o.b, (k * 7) + 2, none⟩)) (fun w => by kernel_rfl) (by kernel_rfl) ?_
    refine M.G.sto (.bool true) (fun u => M.St (M.own2 o k g2) u ∧ ((∀ p, M.Pg o.sl p → p ≠ g2) ∧ (g2 < w.heap.size → M.ow o g2))) [] (by kernel_rfl) (by kernel_rfl) rfl rfl (by kernel_rfl) (fun u h => ⟨h.x.1.fz _ (M.all_b (by rw [M.own1_len]; omega)) _, ⟨_, h.x.1.at_.fld (i := k) (k := 2) (by rw [M.own1_len]; exact hk) rfl (by decide) _ rfl⟩, (M.St.own2 h.x.1 h.x.2.1 hk _ rfl).hp2 h.x.2 (h.ch.setCell (fun _ => M.ow_b (by omega)) _)⟩) (by kernel_rfl) ?_
    refine E.To.code ?_
    refine E.C.seq ?_
    refine E.C.region ?_
    refine E.G.op (.pointer (some ⟨o.b, k * 7, none⟩)) (fun w => by kernel_rfl) (by kernel_rfl) ?_
    refine E.G.op (.pointer (some ⟨o.b, k * 7, none⟩)) (fun w => by kernel_rfl) (by kernel_rfl) ?_
    refine E.G.op (.pointer (some ⟨o.b, k * 7, none⟩)) (fun w => by kernel_rfl) (by kernel_rfl) ?_
    refine E.G.val (.pointer (some ⟨g2, 0, none⟩)) (by kernel_rfl) (fun u h => M.load1 (by kernel_rfl) (M.one Try.underlying70 rfl) (h.x.1.at_.fld (i := k) (k := 0) (by rw [M.own2_len]; exact hk) (by rw [M.own2_at hk, if_pos rfl]; rfl) (by decide) _ rfl)) ?_
    refine E.G.op (.pointer (some ⟨g2, 0, none⟩)) (fun w => by kernel_rfl) (by kernel_rfl) ?_
    refine E.To.code ?_
    refine E.C.weak [(2, .pointer (some ⟨g2, 0, none⟩))] [] ⟨by kernel_rfl, by kernel_rfl⟩ (List.Sublist.refl _) ?_
    refine E.C.ret (E.To.body (fn := Try.f54) [.pointer (some ⟨g2, 0, none⟩)] ?_ ?_)
    · exact ⟨⟨by kernel_rfl, by kernel_rfl⟩, trivial⟩
    · intro w h
      exact ⟨M.own2 o k g2, by rw [M.own2_at hk, if_pos rfl]; rfl, h.x.1, h.ch, M.Nxt.own2 hk h.x.2.2, by rw [M.own2_at hk, if_pos rfl], fun V hV => hV.own2 hk h.x.2.1⟩
  · skip
    refine E.C.skip (E.To.code ?_)
    refine E.C.seq ?_
    refine E.C.region ?_
    refine E.G.op (.pointer (some ⟨o.b, k * 7, none⟩)) (fun w => by kernel_rfl) (by kernel_rfl) ?_
    refine E.G.op (.pointer (some ⟨o.b, k * 7, none⟩)) (fun w => by kernel_rfl) (by kernel_rfl) ?_
    refine E.G.op (.pointer (some ⟨o.b, k * 7, none⟩)) (fun w => by kernel_rfl) (by kernel_rfl) ?_
    refine E.G.val (.pointer (some ⟨(o.at k).d, 0, none⟩)) (by kernel_rfl) (fun w h => M.load1 (by kernel_rfl) (M.one Try.underlying70 rfl) (h.x.at_.fld (i := k) (k := 0) (by (first | assumption | ((try simp only [Bool.or_eq_false_iff, Bool.or_eq_true, Bool.and_eq_true, Bool.and_eq_false_iff, decide_eq_true_eq, decide_eq_false_iff_not, ge_iff_le, gt_iff_lt] at *); omega))) rfl (by decide) _ rfl)) ?_
    refine E.G.op (.pointer (some ⟨(o.at k).d, 0, none⟩)) (fun w => by kernel_rfl) (by kernel_rfl) ?_
    refine E.To.code ?_
    refine E.C.weak [(2, .pointer (some ⟨(o.at k).d, 0, none⟩))] [] ⟨by kernel_rfl, by kernel_rfl⟩ (List.Sublist.refl _) ?_
    refine E.C.ret (E.To.body (fn := Try.f54) [.pointer (some ⟨(o.at k).d, 0, none⟩)] ?_ ?_)
    · exact ⟨⟨by kernel_rfl, by kernel_rfl⟩, trivial⟩
    · intro w h
      exact ⟨o, rfl, h.x, h.ch, M.Nxt.refl _ _, by simpa using hc1, fun V hV => hV⟩
end Go.Proofs.Ytdjjjikokfadiaa
