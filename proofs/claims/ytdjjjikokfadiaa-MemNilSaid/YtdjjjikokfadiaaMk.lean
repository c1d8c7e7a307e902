/- mem: a memory that is written to beside blocks that are known apart. No condition. -/
import Derived.Test.YtdjjjikokfadiaaMj
namespace Go.Proofs.Ytdjjjikokfadiaa
set_option linter.unusedVariables false
set_option linter.unusedSimpArgs false
open Go.RowKit
theorem M.St.keepL {o : M.Obj} {w w' : World} {L : List Nat} (h : M.St o w) (hL : ∀ x, M.all o x → x ∉ L) (hw : ∀ b, b < w.heap.size → b ∉ L → w'.heap[b]? = w.heap[b]?) : M.St o w' :=
  ⟨h.at_.keep (L := L) (hL _ (.inl rfl)) (fun hn => hL _ (M.all_b hn)) (fun p hp => hL _ (.inr (.inr hp))) hw, h.inv, fun x hx i => by
    have h1 := h.fz x hx i
    rw [World.frozen?] at h1 ⊢
    rw [hw x (h.at_.alive hx) (hL x hx)]; exact h1⟩
/-- After an operation on the memory, the blocks that are known apart are as before. -/
theorem M.hp_ch {S : Nat → Prop} {w0 w w' : World} {X : World → Prop} {L : List (Nat × List Value)} {oc o' : M.Obj} (h : E.Hp S w0 X L w) (hX : ∀ w, X w → M.St oc w) (hc : Ch (fun x => M.ow oc x) w w') (hs : M.St o' w') (hn : M.Nxt w oc o') (hS : ∀ x, x < w0.heap.size → M.ow oc x → S x) :
    E.Hp S w0 (fun w => M.St o' w) L w' := by
  have nb : ∀ p, p ∈ L → ¬ M.ow oc p.1 := fun p hp ho => by
    obtain ⟨k, hk, e⟩ := List.getElem_of_mem hp
    exact M.apart h hX (k := k) (g := p.1) (cs := p.2) (by rw [List.getElem?_eq_getElem hk, e]) (M.ow_all ho) rfl
  have na : ∀ x, M.all o' x → x ∉ L.map (·.1) := fun x hx hm => by
    obtain ⟨p, hp, rfl⟩ := List.mem_map.1 hm
    obtain ⟨k, hk, e⟩ := List.getElem_of_mem hp
    exact M.apart h hX (k := k) (g := p.1) (cs := p.2) (by rw [List.getElem?_eq_getElem hk, e]) (hn.al _ (h.lt p hp) hx) rfl
  exact ⟨h.ch.trans' hc hS, fun p hp i v hv => (hc.cell p.1 i (h.lt p hp) (nb p hp)).trans (h.mem p hp i v hv), fun p hp i => (hc.frozen p.1 i (h.lt p hp) (nb p hp)).trans (h.fz p hp i),
    fun p hp => Nat.lt_of_lt_of_le (h.lt p hp) hc.size, h.own, h.nodup, fun w2 h1 h2 => hs.keepL (L := L.map (·.1)) na h2⟩
theorem M.set_callL {S : Nat → Prop} {o oc : M.Obj} {w0 w : World} {X : World → Prop} {L : List (Nat × List Value)} (hX : ∀ w, X w → M.St oc w) (hd : M.Nxt w0 o oc) (hS : ∀ x, M.ow o x → S x) {a : Nat} {v : Int} (ha : a < 4294967296) (hv : 0 ≤ v ∧ v < 256) (h : E.Hp S w0 X L w) :
    Calls Try.prog 39 #[.pointer (some ⟨o.m, 0, none⟩), .int .u32 ((a : Nat) : Int), .int .u8 v] w fun e w' => ∃ i : M.Obj, (M.Nxt w0 o i ∧ ∀ V, M.Sh oc V → M.Sh i (V.set a v)) ∧ e = .returned (.tuple #[]) ∧ E.Hp S w0 (fun w => M.St i w) L w' := by
  have hc := set_any oc a v ha hv w (hX w h.x)
  rw [hd.m] at hc
  exact hc.mono fun e w' ⟨he, i, hs, hch, hn, hV⟩ => ⟨i, ⟨hd.trans hn h.ch.size, hV⟩, he, M.hp_ch h hX hch hs hn fun x hx hx2 => hS x (hd.ow x hx hx2)⟩
def M.V.poke (V : M.V) (a : Nat) (s : ByteArray) : Nat → M.V
  | 0 => V
  | c + 1 => (M.V.poke V a s c).set ((a + c) % 4294967296) (W.byt s.data.toList c)
end Go.Proofs.Ytdjjjikokfadiaa
