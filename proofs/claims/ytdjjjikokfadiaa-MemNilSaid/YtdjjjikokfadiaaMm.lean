/- Walks: Poke of mem, printed by wip/eng. No condition but what is named. -/
import Derived.Test.YtdjjjikokfadiaaProg
import Derived.Test.YtdjjjikokfadiaaMl
namespace Go.Proofs.Ytdjjjikokfadiaa
set_option linter.unusedVariables false
set_option linter.unusedSimpArgs false
open Go.RowKit
theorem Poke_any (o : M.Obj) (a : Nat) (s : ByteArray) (hs : s.size < 4294967296) (w : World) (hst : M.St o w) : Calls Try.prog 28 #[.pointer (some ⟨o.m, 0, none⟩), .int .u32 ((a : Nat) : Int), .string s] w fun e w' => e = .returned (.tuple #[]) ∧ ∃ o', M.St o' w' ∧ Ch (fun x => M.ow o x) w w' ∧ M.Nxt w o o' ∧ ∀ V, M.Sh o V → M.Sh o' (V.poke a s s.size) := by
  refine E.enter (n := 9) (S := fun x => M.ow o x) Try.func28 rfl rfl (by kernel_rfl) (hst.hp (Ch.refl _ _)) ?_
  refine E.C.seq ?_
  refine E.C.region ?_
  refine E.G.new (fun g => .pointer (some ⟨g, 0, none⟩)) [.pointer (some ⟨o.m, 0, none⟩)] 25 (fun w => by kernel_rfl) (by kernel_rfl) (fun g1 => ?_)
  refine E.G.new (fun g => .pointer (some ⟨g, 0, none⟩)) [.int .u32 ((a : Nat) : Int)] 23 (fun w => by kernel_rfl) (by kernel_rfl) (fun g2 => ?_)
  refine E.To.code ?_
  refine E.C.region ?_
  refine E.G.op (.string s) (fun w => by kernel_rfl) (by kernel_rfl) ?_
  refine E.G.op (.func (.func 48) #[] #[.pointer (some ⟨g1, 0, none⟩), .pointer (some ⟨g2, 0, none⟩)]) (fun w => by kernel_rfl) (by kernel_rfl) ?_
  refine E.G.callX (I := M.Obj) (fun oo => M.Nxt w o oo ∧ ∀ V, M.Sh o V → M.Sh oo (V.poke a s s.size)) (fun _ => .tuple #[]) (fun oo w => M.St oo w) (fun _ => [(g2, [.int .u32 ((a : Nat) : Int)]), (g1, [.pointer (some ⟨o.m, 0, none⟩)])]) (fun u h => each_any o o (M.Nxt.refl w o) (fun _ h => h) g1 g2 a s hs u h) (fun u _ => by kernel_rfl) (by kernel_rfl) (fun o1 hd1 => ?_)
  refine E.To.bodyN (fn := Try.f28) [] ?_ ?_
  · exact trivial
  · intro w h
    exact ⟨rfl, o1, h.x, h.ch, hd1.1, hd1.2⟩
end Go.Proofs.Ytdjjjikokfadiaa
