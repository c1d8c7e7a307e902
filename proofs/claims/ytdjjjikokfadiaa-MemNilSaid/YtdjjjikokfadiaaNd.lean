/- Walks: a zero memory and none, calls, printed by wip/eng. No condition but what is named. -/
import Derived.Test.YtdjjjikokfadiaaProg
import Derived.Test.YtdjjjikokfadiaaNc
import Derived.Test.YtdjjjikokfadiaaMag
namespace Go.Proofs.Ytdjjjikokfadiaa
set_option linter.unusedVariables false
set_option linter.unusedSimpArgs false
open Go.RowKit
def M.Z : M.V := M.V.new 0 false
theorem Z_Poke {g : Nat} (a : Nat) (ha : a < 4294967296) : A.Tr Try.prog 28 #[.pointer (some ⟨g, 0, none⟩), .int .u32 ((a : Nat) : Int), .string (⟨#[120]⟩ : ByteArray)] [M.It g M.Z []] (I := Unit) (fun _ => True) (fun _ => .tuple #[]) (fun _ => [M.It g M.Z []]) := by
  have := A_Poke (m := g) (V := M.Z) (xs := []) a (⟨#[120]⟩ : ByteArray) ha (by decide)
  have e : M.Z.poke a (⟨#[120]⟩ : ByteArray) (⟨#[120]⟩ : ByteArray).size = M.Z := by
    show M.V.set M.Z ((a + 0) % 4294967296) (W.byt (⟨#[120]⟩ : ByteArray).data.toList 0) = M.Z
    unfold M.V.set
    exact if_neg (Nat.not_lt_zero _)
  rw [e] at this; exact this
theorem Z_SetCode {g : Nat} (s : ByteArray) : A.Tr Try.prog 36 #[.pointer (some ⟨g, 0, none⟩), .int .i64 0, .string s] [M.It g M.Z []] (I := Unit) (fun _ => True) (fun _ => .tuple #[]) (fun _ => [M.It g M.Z []]) := by
  have := A_SetCode (m := g) (V := M.Z) (xs := []) 0 s
  have e : M.Z.setc 0 s = M.Z := if_neg (fun h => absurd h.2.1 (by decide))
  rw [e] at this; exact this
theorem Z_Protect {g : Nat} : A.Tr Try.prog 16 #[.pointer (some ⟨g, 0, none⟩), .int .i64 0, .int .i64 7] [M.It g M.Z []] (I := Unit) (fun _ => True) (fun _ => .tuple #[]) (fun _ => [M.It g M.Z []]) := by
  have := A_Protect (m := g) (V := M.Z) (xs := []) 0 7
  have e : M.Z.prot 0 7 = M.Z := if_neg (fun h => absurd h.2 (by decide))
  rw [e] at this; exact this
theorem Z_Clean {g : Nat} : A.Tr Try.prog 34 #[.pointer (some ⟨g, 0, none⟩)] [M.It g M.Z []] (I := Unit) (fun _ => True) (fun _ => .tuple #[]) (fun _ => [M.It g M.Z []]) := by
  have := A_Clean (m := g) (V := M.Z) (xs := [])
  have e : M.Z.clean = M.Z := M.V.cln0 M.Z
  rw [e] at this; exact this
theorem Z_Store {g : Nat} (a : Nat) (ha : a < 4294967296) (n v : Int) : A.Tr Try.prog 18 #[.pointer (some ⟨g, 0, none⟩), .int .u32 ((a : Nat) : Int), .int .i64 n, .int .u32 v] [M.It g M.Z []] (I := Unit) (fun _ => True) (fun _ => .tuple #[.int .u32 ((a : Nat) : Int), .bool false]) (fun _ => [M.It g M.Z []]) := by
  have := A_Store (m := g) (V := M.Z) (xs := []) a n v ha
  have e : M.Z.sto a n v = M.Z := M.z_sto a ha n v
  have e2 : M.Z.chk a 2 n = (((a : Nat) : Int), false) := M.z_chk a ha n 2
  rw [e, e2] at this; exact this
theorem Z_Load {g : Nat} (a : Nat) (ha : a < 4294967296) (n : Int) : A.Rd Try.prog 17 #[.pointer (some ⟨g, 0, none⟩), .int .u32 ((a : Nat) : Int), .int .i64 n] [M.It g M.Z []] (.tuple #[.int .u32 0, .int .u32 ((a : Nat) : Int), .bool false]) := by
  have := A_Load (m := g) (V := M.Z) (xs := []) a n ha
  rw [show M.Z.load a n = (0, ((a : Nat) : Int), false) from M.z_load a ha n] at this; exact this
theorem Z_Dirty {g : Nat} : A.Tr Try.prog 23 #[.pointer (some ⟨g, 0, none⟩)] [M.It g M.Z []] (I := Option Addr × Nat) (fun _ => True) (fun i => .slice i.1 0 i.2) (fun i => [M.It g M.Z []]) := by
  have := A_Dirty (m := g) (V := M.Z) (xs := [])
  intro w o a hh
  refine (this w o a hh).mono fun e w' ⟨i, hi, he, o', a', ⟨o1, a1, o2, a2, h1, h2, d1, d2, ho, ha⟩, hc, hg⟩ => ⟨i, hi, he, o1, a1, A.Has.one h1, hc, fun x hx hk => hg.1 x hx ((ho x).2 (.inl hk)), fun x hx hk => hg.2 x hx ((ha x).2 (.inl hk))⟩
theorem Nil_Snapshot_it {P : Program} {f : FuncId} {args : Array Value} {I : Type} {D : I → Prop} {V : I → Value} {p : List A.It} {g : I → Nat} (h : A.Tr P f args p D V (fun i => [A.blk (g i) [.slice none 0 0, .bool false]])) : A.Tr P f args p D V (fun i => [M.It (g i) M.Z []]) := by
  intro w o a hh
  exact (h w o a hh).mono fun e w' ⟨i, hi, he, o', a', hq, r⟩ => ⟨i, hi, he, o', a', A.Has.swap (fun _ _ _ => M.zero_it) hq, r⟩
theorem Nil_Snapshot0  : A.Tr Try.prog 29 #[.pointer none] [] (I := Nat) (fun _ => True) (fun g => .pointer (some ⟨g, 0, none⟩)) (fun g => [A.blk g [.slice none 0 0, .bool false]]) := by
  intro w oo aa hh
  refine E.enter (n := 43) (S := oo) Try.func29 rfl rfl (by kernel_rfl) (A.start (L := []) hh) ?_
  refine E.C.seq ?_
  refine E.C.region ?_
  refine E.G.op (.pointer none) (fun w => by kernel_rfl) (by kernel_rfl) ?_
  refine E.To.code ?_
  refine E.C.seq ?_
  refine E.C.seq ?_
  refine E.C.region ?_
  refine E.G.op (.pointer none) (fun w => by kernel_rfl) (by kernel_rfl) ?_
  refine E.G.op (.bool true) (fun w => by kernel_rfl) (by kernel_rfl) ?_
  refine E.To.code ?_
  refine E.C.condT (by kernel_rfl) (by kernel_rfl) ?_
  refine E.C.seq ?_
  refine E.C.region ?_
  refine E.G.val (.agg #[.slice none 0 0, .bool false]) (by kernel_rfl) (fun w h => E.run_build #[.slice none 0 0, .bool false] (by kernel_rfl) w) ?_
  refine E.G.new (fun g => .pointer (some ⟨g, 0, none⟩)) [.slice none 0 0, .bool false] 66 (fun w => by kernel_rfl) (by kernel_rfl) (fun g1 => ?_)
  refine E.G.op (.pointer (some ⟨g1, 0, none⟩)) (fun w => by kernel_rfl) (by kernel_rfl) ?_
  refine E.To.code ?_
  refine E.C.ret (E.P.rt (E.To.body (fn := Try.f29) [.pointer (some ⟨g1, 0, none⟩)] ?_ ?_))
  · exact ⟨⟨by kernel_rfl, by kernel_rfl⟩, trivial⟩
  · intro w h
    exact ⟨g1, trivial, rfl, A.done (q := [A.blk g1 ([.slice none 0 0, .bool false])]) (r := []) h (by kernel_rfl) (A.pm [0] (by kernel_rfl) (by kernel_rfl))⟩
theorem Nil_Snapshot : A.Tr Try.prog 29 #[.pointer none] [] (I := Nat) (fun _ => True) (fun g => .pointer (some ⟨g, 0, none⟩)) (fun g => [M.It g M.Z []]) := Nil_Snapshot_it Nil_Snapshot0
theorem Nil_Equal0 {m : Nat} : A.Rd Try.prog 30 #[.pointer none, .pointer (some ⟨m, 0, none⟩)] [M.It m M.Z []] (.bool true) := by
  intro w oo aa hh
  refine E.enter (n := 60) (S := fun _ => False) Try.func30 rfl rfl (by kernel_rfl) (A.startY hh) ?_
  refine E.C.seq ?_
  refine E.C.region ?_
  refine E.G.op (.bool false) (fun w => by kernel_rfl) (by kernel_rfl) ?_
  refine E.To.code ?_
  refine E.C.seq ?_
  refine E.C.seq ?_
  refine E.C.region ?_
  refine E.G.op (.pointer none) (fun w => by kernel_rfl) (by kernel_rfl) ?_
  refine E.G.call (.int .i64 0) (fun w h => Pages_nil w) (fun w _ => by kernel_rfl) (by kernel_rfl) ?_
  refine E.G.op (.pointer (some ⟨m, 0, none⟩)) (fun w => by kernel_rfl) (by kernel_rfl) ?_
  refine E.G.call (.int .i64 0) (fun w h => A.Y.rd [] (M.rdAs (A_Pages (m := m) (V := M.Z) (xs := [])) (v' := .int .i64 0) rfl) h.x (A.pm [0] (by kernel_rfl) (by kernel_rfl))) (fun w _ => by kernel_rfl) (by kernel_rfl) ?_
  refine E.G.op (.bool false) (fun w => by kernel_rfl) (by kernel_rfl) ?_
  refine E.To.code ?_
  refine E.C.condF (by kernel_rfl) (by kernel_rfl) ?_
  refine E.C.skip (E.To.code ?_)
  refine E.C.seq ?_
  refine E.C.seq ?_
  refine E.C.region ?_
  refine E.G.op (.pointer none) (fun w => by kernel_rfl) (by kernel_rfl) ?_
  refine E.G.call (.int .i64 0) (fun w h => Pages_nil w) (fun w _ => by kernel_rfl) (by kernel_rfl) ?_
  refine E.G.op (.int .i64 0) (fun w => by kernel_rfl) (by kernel_rfl) ?_
  refine E.To.code ?_
  refine E.C.block ?_
  refine E.C.rounds 1 ?_
  refine E.C.seq ?_
  refine E.C.region ?_
  refine E.G.op (.bool false) (fun w => by kernel_rfl) (by kernel_rfl) ?_
  refine E.To.code ?_
  refine E.C.seq ?_
  refine E.C.condF (by kernel_rfl) (by kernel_rfl) ?_
  refine E.C.exit (E.P.et (E.P.et (E.P.eh (E.To.code ?_))))
  refine E.C.weak [(4, .bool false)] [] ⟨by kernel_rfl, by kernel_rfl⟩ (List.Sublist.refl _) ?_
  refine E.C.seq ?_
  refine E.C.region ?_
  refine E.G.op (.bool true) (fun w => by kernel_rfl) (by kernel_rfl) ?_
  refine E.To.code ?_
  refine E.C.ret (E.To.body (fn := Try.f30) [.bool true] ?_ ?_)
  · exact ⟨⟨by kernel_rfl, by kernel_rfl⟩, trivial⟩
  · intro w h
    exact ⟨rfl, h.ch.bel (fun _ h => h.elim)⟩
theorem Nil_Equal1 {m : Nat} : A.Rd Try.prog 30 #[.pointer (some ⟨m, 0, none⟩), .pointer none] [M.It m M.Z []] (.bool true) := by
  intro w oo aa hh
  refine E.enter (n := 60) (S := fun _ => False) Try.func30 rfl rfl (by kernel_rfl) (A.startY hh) ?_
  refine E.C.seq ?_
  refine E.C.region ?_
  refine E.G.op (.bool false) (fun w => by kernel_rfl) (by kernel_rfl) ?_
  refine E.To.code ?_
  refine E.C.seq ?_
  refine E.C.seq ?_
  refine E.C.region ?_
  refine E.G.op (.pointer (some ⟨m, 0, none⟩)) (fun w => by kernel_rfl) (by kernel_rfl) ?_
  refine E.G.call (.int .i64 0) (fun w h => A.Y.rd [] (M.rdAs (A_Pages (m := m) (V := M.Z) (xs := [])) (v' := .int .i64 0) rfl) h.x (A.pm [0] (by kernel_rfl) (by kernel_rfl))) (fun w _ => by kernel_rfl) (by kernel_rfl) ?_
  refine E.G.op (.pointer none) (fun w => by kernel_rfl) (by kernel_rfl) ?_
  refine E.G.call (.int .i64 0) (fun w h => Pages_nil w) (fun w _ => by kernel_rfl) (by kernel_rfl) ?_
  refine E.G.op (.bool false) (fun w => by kernel_rfl) (by kernel_rfl) ?_
  refine E.To.code ?_
  refine E.C.condF (by kernel_rfl) (by kernel_rfl) ?_
  refine E.C.skip (E.To.code ?_)
  refine E.C.seq ?_
  refine E.C.seq ?_
  refine E.C.region ?_
  refine E.G.op (.pointer (some ⟨m, 0, none⟩)) (fun w => by kernel_rfl) (by kernel_rfl) ?_
  refine E.G.call (.int .i64 0) (fun w h => A.Y.rd [] (M.rdAs (A_Pages (m := m) (V := M.Z) (xs := [])) (v' := .int .i64 0) rfl) h.x (A.pm [0] (by kernel_rfl) (by kernel_rfl))) (fun w _ => by kernel_rfl) (by kernel_rfl) ?_
  refine E.G.op (.int .i64 0) (fun w => by kernel_rfl) (by kernel_rfl) ?_
  refine E.To.code ?_
  refine E.C.block ?_
  refine E.C.rounds 1 ?_
  refine E.C.seq ?_
  refine E.C.region ?_
  refine E.G.op (.bool false) (fun w => by kernel_rfl) (by kernel_rfl) ?_
  refine E.To.code ?_
  refine E.C.seq ?_
  refine E.C.condF (by kernel_rfl) (by kernel_rfl) ?_
  refine E.C.exit (E.P.et (E.P.et (E.P.eh (E.To.code ?_))))
  refine E.C.weak [(4, .bool false)] [] ⟨by kernel_rfl, by kernel_rfl⟩ (List.Sublist.refl _) ?_
  refine E.C.seq ?_
  refine E.C.region ?_
  refine E.G.op (.bool true) (fun w => by kernel_rfl) (by kernel_rfl) ?_
  refine E.To.code ?_
  refine E.C.ret (E.To.body (fn := Try.f30) [.bool true] ?_ ?_)
  · exact ⟨⟨by kernel_rfl, by kernel_rfl⟩, trivial⟩
  · intro w h
    exact ⟨rfl, h.ch.bel (fun _ h => h.elim)⟩
end Go.Proofs.Ytdjjjikokfadiaa
