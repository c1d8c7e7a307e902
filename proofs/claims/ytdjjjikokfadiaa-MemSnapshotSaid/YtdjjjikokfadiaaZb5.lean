/- Texts 5 of the walk, merged: see the remark ahead of each. -/
import Derived.Test.YtdjjjikokfadiaaZb4
import Derived.Test.YtdjjjikokfadiaaProg
import Derived.Test.YtdjjjikokfadiaaRows
import Derived.WalkKit
import Derived.ProofKit
import Derived.OpenShut
import Derived.ShutString
import Derived.ChangeOld
import Derived.Below
import Derived.Carry
import Derived.ChangeMaps5
import Derived.Lib.SmallJoins
import Derived.SizedLaws
/- Walks: near and do of the laws of mem, printed by wip/eng. No condition but what is named. -/
namespace Go.Proofs.Ytdjjjikokfadiaa
set_option linter.unusedVariables false
set_option linter.unusedSimpArgs false
open Go.RowKit
/-- An operation of the laws. -/
structure M.Op where
  what : Int
  a : Nat
  v : Nat
  n : Int
  s : ByteArray
  o : Int
  ha : a < 4294967296
  hv : v < 4294967296
def M.Op.val (p : M.Op) : Value := .agg #[.int .u8 p.what, .int .u32 ((p.a : Nat) : Int), .int .u32 ((p.v : Nat) : Int), .int .i64 p.n, .string p.s, .int .u8 p.o]
def M.Op.cells (p : M.Op) : List Value := [.int .u8 p.what, .int .u32 ((p.a : Nat) : Int), .int .u32 ((p.v : Nat) : Int), .int .i64 p.n, .string p.s, .int .u8 p.o]
/-- The address of an operation. -/
def M.sub100 (a : Nat) : Nat := (4294967196 + a % 1024) % 4294967296
def M.near (p : M.Op) : Nat := bif (bits .and .u8 p.o 3 == 3) then p.a else M.sub100 p.a
theorem M.sub100_lt (a : Nat) : M.sub100 a < 4294967296 := by unfold M.sub100; omega
theorem M.near_lt (p : M.Op) : M.near p < 4294967296 := by
  have := p.ha
  unfold M.near
  cases (bits .and .u8 p.o 3 == 3) with
  | true => exact this
  | false => exact M.sub100_lt p.a
theorem M.near_f (p : M.Op) : IntKind.wrap .u32 ((bits .and .u32 ((p.a : Nat) : Int) 1023) - 100) = ((M.sub100 p.a : Nat) : Int) := by
  unfold M.sub100
  have e : bits .and .u32 ((p.a : Nat) : Int) 1023 = ((p.a : Nat) : Int) % 1024 := W.and_mask 10 (by decide) _ (by omega) (by have := p.ha; omega)
  rw [e]
  show (((p.a : Nat) : Int) % 1024 - 100) % 4294967296 = _
  omega
/-- Its size, its string, its page. -/
def M.opn (p : M.Op) : Int := (bif (bits .and .u8 p.o 4 == 0) then (IntKind.wrap .i64 (1 + (bits .and .i64 p.n 3))) else p.n)
def M.opl (p : M.Op) : Int := (if 300 < ((p.s.size : Nat) : Int) then 300 else ((p.s.size : Nat) : Int))
def M.ops (p : M.Op) : ByteArray := p.s.extract 0 (M.opl p).toNat
theorem M.opl_bd (p : M.Op) : 0 ≤ M.opl p ∧ M.opl p ≤ ((p.s.size : Nat) : Int) ∧ M.opl p ≤ 300 := by unfold M.opl; split <;> omega
theorem M.ops_size (p : M.Op) : (M.ops p).size < 4294967296 := by
  unfold M.ops
  rw [ByteArray.size_extract]
  have := M.opl_bd p
  omega
def M.opp (p : M.Op) : Int := IntKind.wrap .i64 ((IntKind.wrap .i64 (bits .and .u32 ((p.v : Nat) : Int) 3)) - 1)
theorem R.wf_of {w0 w : World} {o0 a0 : Nat → Prop} {its : List A.It} {L : List (Nat × List Value)} {k r : Nat} {V : M.V} (h : E.Hp o0 w0 (A.X w0 o0 a0 its) L w) (hk : its[k]? = some (R.It r V)) : R.Wf V := by
  obtain ⟨o1, a1, hv⟩ := A.X.get h hk
  exact hv.1
theorem R.fetch_bd {V : M.V} (hw : R.Wf V) (a : Nat) : 0 ≤ (V.fetch a).1 ∧ (V.fetch a).1 < 256 := by
  unfold M.V.fetch
  split
  · exact R.code_bd hw a
  · exact ⟨Int.le_refl _, by show (0 : Int) < 256; decide⟩
theorem near_any (p : M.Op) (w : World) : Calls Try.prog 55 #[.agg #[.int .u8 p.what, .int .u32 ((p.a : Nat) : Int), .int .u32 ((p.v : Nat) : Int), .int .i64 p.n, .string p.s, .int .u8 p.o]] w fun e w' => e = .returned (.int .u32 ((M.near p : Nat) : Int)) ∧ Bel w w' := by
  refine E.enter (n := 13) (S := fun _ => False) Try.func55 rfl rfl (by kernel_rfl) (E.Hp.start w) ?_
  refine E.C.seq ?_
  refine E.C.region ?_
  refine E.G.new (fun g => .pointer (some ⟨g, 0, none⟩)) [.int .u8 p.what, .int .u32 ((p.a : Nat) : Int), .int .u32 ((p.v : Nat) : Int), .int .i64 p.n, .string p.s, .int .u8 p.o] 85 (fun w => by kernel_rfl) (by kernel_rfl) (fun g1 => ?_)
  refine E.G.op (.int .u32 0) (fun w => by kernel_rfl) (by kernel_rfl) ?_
  refine E.To.code ?_
  refine E.C.seq ?_
  refine E.C.seq ?_
  refine E.C.region ?_
  refine E.G.op (.pointer (some ⟨g1, 5, none⟩)) (fun w => by kernel_rfl) (by kernel_rfl) ?_
  refine E.G.val (.int .u8 p.o) (by kernel_rfl) (fun w h => E.run_load h 0 rfl rfl (by kernel_rfl)) ?_
  refine E.G.op (.int .u8 (bits .and .u8 p.o 3)) (fun w => by kernel_rfl) (by kernel_rfl) ?_
  refine E.G.op (.bool ((bits .and .u8 p.o 3) == 3)) (fun w => by kernel_rfl) (by kernel_rfl) ?_
  refine E.To.code ?_
  refine E.C.cond ((bits .and .u8 p.o 3) == 3) (by kernel_rfl) (by kernel_rfl) (fun hc2 => ?_) (fun hc2 => ?_)
  · skip
    refine E.C.seq ?_
    refine E.C.region ?_
    refine E.G.op (.pointer (some ⟨g1, 1, none⟩)) (fun w => by kernel_rfl) (by kernel_rfl) ?_
    refine E.G.val (.int .u32 ((p.a : Nat) : Int)) (by kernel_rfl) (fun w h => E.run_load h 0 rfl rfl (by kernel_rfl)) ?_
    refine E.G.op (.int .u32 ((p.a : Nat) : Int)) (fun w => by kernel_rfl) (by kernel_rfl) ?_
    refine E.To.code ?_
    refine E.C.ret (E.P.rt (E.To.body (fn := Try.f55) [.int .u32 ((p.a : Nat) : Int)] ?_ ?_))
    · exact ⟨⟨by kernel_rfl, by kernel_rfl⟩, trivial⟩
    · intro w h
      exact ⟨by unfold M.near; rw [hc2]; exact congrArg (fun x => Ending.returned (Value.int .u32 x)) (rfl), h.ch.bel (fun _ h => h.elim)⟩
  · skip
    refine E.C.skip (E.To.code ?_)
    refine E.C.seq ?_
    refine E.C.region ?_
    refine E.G.op (.pointer (some ⟨g1, 1, none⟩)) (fun w => by kernel_rfl) (by kernel_rfl) ?_
    refine E.G.val (.int .u32 ((p.a : Nat) : Int)) (by kernel_rfl) (fun w h => E.run_load h 0 rfl rfl (by kernel_rfl)) ?_
    refine E.G.op (.int .u32 (bits .and .u32 ((p.a : Nat) : Int) 1023)) (fun w => by kernel_rfl) (by kernel_rfl) ?_
    refine E.G.op (.int .u32 (IntKind.wrap .u32 ((bits .and .u32 ((p.a : Nat) : Int) 1023) - 100))) (fun w => by kernel_rfl) (by kernel_rfl) ?_
    refine E.G.op (.int .u32 (IntKind.wrap .u32 ((bits .and .u32 ((p.a : Nat) : Int) 1023) - 100))) (fun w => by kernel_rfl) (by kernel_rfl) ?_
    refine E.To.code ?_
    refine E.C.weak [(2, .int .u32 (IntKind.wrap .u32 ((bits .and .u32 ((p.a : Nat) : Int) 1023) - 100)))] [] ⟨by kernel_rfl, by kernel_rfl⟩ (List.nil_sublist _) ?_
    refine E.C.ret (E.To.body (fn := Try.f55) [.int .u32 (IntKind.wrap .u32 ((bits .and .u32 ((p.a : Nat) : Int) 1023) - 100))] ?_ ?_)
    · exact ⟨⟨by kernel_rfl, by kernel_rfl⟩, trivial⟩
    · intro w h
      exact ⟨by unfold M.near; rw [hc2]; exact congrArg (fun x => Ending.returned (Value.int .u32 x)) (M.near_f p), h.ch.bel (fun _ h => h.elim)⟩
def M.V.op (V : M.V) (p : M.Op) : M.V := (bif (((Int.tmod p.what 10) == 0) || ((Int.tmod p.what 10) == 1)) then V else (bif (((Int.tmod p.what 10) == 2) || (((Int.tmod p.what 10) == 3) || ((Int.tmod p.what 10) == 4))) then (V.sto (M.near p) (M.opn p) ((p.v : Nat) : Int)) else (bif ((Int.tmod p.what 10) == 5) then V else (bif ((Int.tmod p.what 10) == 6) then (V.sync ((M.near p) / 256)) else (bif ((Int.tmod p.what 10) == 7) then (V.poke (M.near p) (M.ops p) (M.ops p).size) else (bif ((Int.tmod p.what 10) == 8) then (V.setc (M.opp p) (M.ops p)) else (V.prot (M.opp p) (M.opn p))))))))
theorem Do {m r : Nat} {V : M.V} (p : M.Op) : A.Tr Try.prog 46 #[.agg #[.pointer (some ⟨m, 0, none⟩), .pointer (some ⟨r, 0, none⟩)], p.val] [M.It m V [], R.It r V] (I := Unit) (fun _ => True) (fun _ => .bool true) (fun _ => [M.It m (M.V.op V p) [], R.It r (M.V.op V p)]) := by
  intro w oo aa hh
  refine E.enter (n := 188) (S := oo) Try.func46 rfl rfl (by kernel_rfl) (A.start (L := []) hh) ?_
  refine E.C.know (p := R.Wf V) (fun w h => R.wf_of h (k := 1) rfl) (fun hw => ?_)
  refine E.C.seq ?_
  refine E.C.region ?_
  refine E.G.new (fun g => .pointer (some ⟨g, 0, none⟩)) [.pointer (some ⟨m, 0, none⟩), .pointer (some ⟨r, 0, none⟩)] 44 (fun w => by kernel_rfl) (by kernel_rfl) (fun g1 => ?_)
  refine E.G.new (fun g => .pointer (some ⟨g, 0, none⟩)) [.int .u8 p.what, .int .u32 ((p.a : Nat) : Int), .int .u32 ((p.v : Nat) : Int), .int .i64 p.n, .string p.s, .int .u8 p.o] 85 (fun w => by kernel_rfl) (by kernel_rfl) (fun g2 => ?_)
  refine E.G.op (.bool false) (fun w => by kernel_rfl) (by kernel_rfl) ?_
  refine E.To.code ?_
  refine E.C.seq ?_
  refine E.C.region ?_
  refine E.G.val (.agg #[.int .u8 p.what, .int .u32 ((p.a : Nat) : Int), .int .u32 ((p.v : Nat) : Int), .int .i64 p.n, .string p.s, .int .u8 p.o]) (by kernel_rfl) (fun w h => E.run_load h 0 rfl rfl (by kernel_rfl)) ?_
  refine E.G.call (.int .u32 ((M.near p : Nat) : Int)) (fun w h => near_any p w) (fun w _ => by kernel_rfl) (by kernel_rfl) ?_
  refine E.G.op (.int .u32 ((M.near p : Nat) : Int)) (fun w => by kernel_rfl) (by kernel_rfl) ?_
  refine E.To.code ?_
  refine E.C.seq ?_
  refine E.C.region ?_
  refine E.G.op (.pointer (some ⟨g2, 3, none⟩)) (fun w => by kernel_rfl) (by kernel_rfl) ?_
  refine E.G.val (.int .i64 p.n) (by kernel_rfl) (fun w h => E.run_load h 0 rfl rfl (by kernel_rfl)) ?_
  refine E.G.op (.int .i64 p.n) (fun w => by kernel_rfl) (by kernel_rfl) ?_
  refine E.To.code ?_
  refine E.C.seq ?_
  refine E.C.seq ?_
  refine E.C.region ?_
  refine E.G.op (.pointer (some ⟨g2, 5, none⟩)) (fun w => by kernel_rfl) (by kernel_rfl) ?_
  refine E.G.val (.int .u8 p.o) (by kernel_rfl) (fun w h => E.run_load h 0 rfl rfl (by kernel_rfl)) ?_
  refine E.G.op (.int .u8 (bits .and .u8 p.o 4)) (fun w => by kernel_rfl) (by kernel_rfl) ?_
  refine E.G.op (.bool ((bits .and .u8 p.o 4) == 0)) (fun w => by kernel_rfl) (by kernel_rfl) ?_
  refine E.To.code ?_
  refine E.C.weak [(2, .pointer (some ⟨g1, 0, none⟩)), (3, .pointer (some ⟨g2, 0, none⟩)), (4, .bool false), (5, .int .u32 ((M.near p : Nat) : Int)), (6, .int .i64 p.n), (26, .bool ((bits .and .u8 p.o 4) == 0))] [(g2, [.int .u8 p.what, .int .u32 ((p.a : Nat) : Int), .int .u32 ((p.v : Nat) : Int), .int .i64 p.n, .string p.s, .int .u8 p.o]), (g1, [.pointer (some ⟨m, 0, none⟩), .pointer (some ⟨r, 0, none⟩)])] ⟨by kernel_rfl, by kernel_rfl⟩ (List.Sublist.refl _) ?_
  refine E.C.thencut [(2, .pointer (some ⟨g1, 0, none⟩)), (3, .pointer (some ⟨g2, 0, none⟩)), (4, .bool false), (5, .int .u32 ((M.near p : Nat) : Int)), (6, .int .i64 (bif ((bits .and .u8 p.o 4) == 0) then (IntKind.wrap .i64 (1 + (bits .and .i64 p.n 3))) else p.n))] (A.X w oo aa [M.It m V ([]), R.It r V]) [(g2, [.int .u8 p.what, .int .u32 ((p.a : Nat) : Int), .int .u32 ((p.v : Nat) : Int), .int .i64 p.n, .string p.s, .int .u8 p.o]), (g1, [.pointer (some ⟨m, 0, none⟩), .pointer (some ⟨r, 0, none⟩)])] ?_ ?_
  · skip
    generalize hc3 : ((bits .and .u8 p.o 4) == 0) = b4
    cases b4
    · skip
      refine E.C.condF (by kernel_rfl) (by kernel_rfl) ?_
      exact E.C.skip (E.To.pst ⟨by kernel_rfl, by kernel_rfl⟩ (List.Sublist.refl _) (fun _ h => h))
    · skip
      refine E.C.condT (by kernel_rfl) (by kernel_rfl) ?_
      refine E.C.region ?_
      refine E.G.op (.pointer (some ⟨g2, 3, none⟩)) (fun w => by kernel_rfl) (by kernel_rfl) ?_
      refine E.G.val (.int .i64 p.n) (by kernel_rfl) (fun w h => E.run_load h 0 rfl rfl (by kernel_rfl)) ?_
      refine E.G.op (.int .i64 (bits .and .i64 p.n 3)) (fun w => by kernel_rfl) (by kernel_rfl) ?_
      refine E.G.op (.int .i64 (IntKind.wrap .i64 (1 + (bits .and .i64 p.n 3)))) (fun w => by kernel_rfl) (by kernel_rfl) ?_
      refine E.G.op (.int .i64 (IntKind.wrap .i64 (1 + (bits .and .i64 p.n 3)))) (fun w => by kernel_rfl) (by kernel_rfl) ?_
      exact E.To.pst ⟨by kernel_rfl, by kernel_rfl⟩ (List.Sublist.refl _) (fun _ h => h)
  refine E.C.seq ?_
  refine E.C.region ?_
  refine E.G.op (.pointer (some ⟨g2, 4, none⟩)) (fun w => by kernel_rfl) (by kernel_rfl) ?_
  refine E.G.val (.string p.s) (by kernel_rfl) (fun w h => E.run_load h 0 rfl rfl (by kernel_rfl)) ?_
  refine E.G.op (.pointer (some ⟨g2, 4, none⟩)) (fun w => by kernel_rfl) (by kernel_rfl) ?_
  refine E.G.val (.string p.s) (by kernel_rfl) (fun w h => E.run_load h 0 rfl rfl (by kernel_rfl)) ?_
  refine E.G.op (.int .i64 ((p.s.size : Nat) : Int)) (fun w => by kernel_rfl) (by kernel_rfl) ?_
  refine E.G.op (.int .i64 (M.opl p)) (fun w => by kernel_rfl) (by kernel_rfl) ?_
  refine E.G.val (.string (M.ops p)) (by kernel_rfl) (fun w h => E.slTo p.s .i64 (M.opl p) (by kernel_rfl) (by kernel_rfl) (by kernel_rfl) (by have := M.opl_bd p; omega) (by have := M.opl_bd p; omega) w) ?_
  refine E.G.op (.string (M.ops p)) (fun w => by kernel_rfl) (by kernel_rfl) ?_
  refine E.To.code ?_
  refine E.C.seq ?_
  refine E.C.region ?_
  refine E.G.op (.pointer (some ⟨g2, 2, none⟩)) (fun w => by kernel_rfl) (by kernel_rfl) ?_
  refine E.G.val (.int .u32 ((p.v : Nat) : Int)) (by kernel_rfl) (fun w h => E.run_load h 0 rfl rfl (by kernel_rfl)) ?_
  refine E.G.op (.int .u32 (bits .and .u32 ((p.v : Nat) : Int) 3)) (fun w => by kernel_rfl) (by kernel_rfl) ?_
  refine E.G.op (.int .i64 (IntKind.wrap .i64 (bits .and .u32 ((p.v : Nat) : Int) 3))) (fun w => by kernel_rfl) (by kernel_rfl) ?_
  refine E.G.op (.int .i64 (M.opp p)) (fun w => by kernel_rfl) (by kernel_rfl) ?_
  refine E.G.op (.int .i64 (M.opp p)) (fun w => by kernel_rfl) (by kernel_rfl) ?_
  refine E.To.code ?_
  refine E.C.weak [(2, .pointer (some ⟨g1, 0, none⟩)), (3, .pointer (some ⟨g2, 0, none⟩)), (4, .bool false), (5, .int .u32 ((M.near p : Nat) : Int)), (6, .int .i64 (bif ((bits .and .u8 p.o 4) == 0) then (IntKind.wrap .i64 (1 + (bits .and .i64 p.n 3))) else p.n)), (7, .string (M.ops p)), (8, .int .i64 (M.opp p))] [(g2, [.int .u8 p.what, .int .u32 ((p.a : Nat) : Int), .int .u32 ((p.v : Nat) : Int), .int .i64 p.n, .string p.s, .int .u8 p.o]), (g1, [.pointer (some ⟨m, 0, none⟩), .pointer (some ⟨r, 0, none⟩)])] ⟨by kernel_rfl, by kernel_rfl⟩ (List.Sublist.refl _) ?_
  refine E.C.seq ?_
  refine E.C.seq ?_
  refine E.C.region ?_
  refine E.G.op (.pointer (some ⟨g2, 0, none⟩)) (fun w => by kernel_rfl) (by kernel_rfl) ?_
  refine E.G.val (.int .u8 p.what) (by kernel_rfl) (fun w h => E.run_load h 0 rfl rfl (by kernel_rfl)) ?_
  refine E.G.op (.int .u8 (Int.tmod p.what 10)) (fun w => by kernel_rfl) (by kernel_rfl) ?_
  refine E.To.code ?_
  refine E.C.block ?_
  refine E.C.seq ?_
  refine E.C.seq ?_
  refine E.C.region ?_
  refine E.G.op (.bool ((Int.tmod p.what 10) == 0)) (fun w => by kernel_rfl) (by kernel_rfl) ?_
  refine E.G.op (.bool ((Int.tmod p.what 10) == 0)) (fun w => by kernel_rfl) (by kernel_rfl) ?_
  refine E.To.code ?_
  refine E.C.thencut [(2, .pointer (some ⟨g1, 0, none⟩)), (3, .pointer (some ⟨g2, 0, none⟩)), (4, .bool false), (5, .int .u32 ((M.near p : Nat) : Int)), (6, .int .i64 (bif ((bits .and .u8 p.o 4) == 0) then (IntKind.wrap .i64 (1 + (bits .and .i64 p.n 3))) else p.n)), (7, .string (M.ops p)), (8, .int .i64 (M.opp p)), (45, .int .u8 (Int.tmod p.what 10)), (65, .bool (((Int.tmod p.what 10) == 0) || ((Int.tmod p.what 10) == 1)))] (A.X w oo aa [M.It m V ([]), R.It r V]) [(g2, [.int .u8 p.what, .int .u32 ((p.a : Nat) : Int), .int .u32 ((p.v : Nat) : Int), .int .i64 p.n, .string p.s, .int .u8 p.o]), (g1, [.pointer (some ⟨m, 0, none⟩), .pointer (some ⟨r, 0, none⟩)])] ?_ ?_
  · skip
    generalize hc5 : ((Int.tmod p.what 10) == 0) = b6
    cases b6
    · skip
      refine E.C.condF (by kernel_rfl) (by kernel_rfl) ?_
      refine E.C.region ?_
      refine E.G.op (.bool ((Int.tmod p.what 10) == 1)) (fun w => by kernel_rfl) (by kernel_rfl) ?_
      refine E.G.op (.bool ((Int.tmod p.what 10) == 1)) (fun w => by kernel_rfl) (by kernel_rfl) ?_
      exact E.To.pst ⟨by kernel_rfl, by kernel_rfl⟩ (List.Sublist.refl _) (fun _ h => h)
    · skip
      refine E.C.condT (by kernel_rfl) (by kernel_rfl) ?_
      exact E.C.skip (E.To.pst ⟨by kernel_rfl, by kernel_rfl⟩ (List.Sublist.refl _) (fun _ h => h))
  refine E.C.cond (((Int.tmod p.what 10) == 0) || ((Int.tmod p.what 10) == 1)) (by kernel_rfl) (by kernel_rfl) (fun hc7 => ?_) (fun hc7 => ?_)
  · skip
    refine E.C.seq ?_
    refine E.C.region ?_
    refine E.G.op (.pointer (some ⟨g1, 0, none⟩)) (fun w => by kernel_rfl) (by kernel_rfl) ?_
    refine E.G.val (.pointer (some ⟨m, 0, none⟩)) (by kernel_rfl) (fun w h => E.run_load h 1 rfl rfl (by kernel_rfl)) ?_
    refine E.G.op (.int .u32 ((M.near p : Nat) : Int)) (fun w => by kernel_rfl) (by kernel_rfl) ?_
    refine E.G.op (.int .i64 (M.opn p)) (fun w => by kernel_rfl) (by kernel_rfl) ?_
    refine E.G.call (.tuple #[.int .u32 ((V.load (M.near p) (M.opn p)).1), .int .u32 ((V.load (M.near p) (M.opn p)).2.1), .bool ((V.load (M.near p) (M.opn p)).2.2)]) (fun w h => A.call_rd [A.blk g2 ([.int .u8 p.what, .int .u32 ((p.a : Nat) : Int), .int .u32 ((p.v : Nat) : Int), .int .i64 p.n, .string p.s, .int .u8 p.o]), A.blk g1 ([.pointer (some ⟨m, 0, none⟩), .pointer (some ⟨r, 0, none⟩)]), R.It r V] (A_Load (M.near p) (M.opn p) (by first | exact M.near_lt _ | (first | assumption | ((try simp only [Bool.or_eq_false_iff, Bool.or_eq_true, Bool.and_eq_true, Bool.and_eq_false_iff, Bool.not_eq_eq_eq_not, Bool.not_true, Bool.not_false, decide_eq_true_eq, decide_eq_false_iff_not, ge_iff_le, gt_iff_lt] at *); omega))) (m := m) (V := V) (xs := [])) h (by kernel_rfl) (A.pm [2, 0, 1, 3] (by kernel_rfl) (by kernel_rfl))) (fun w _ => by kernel_rfl) (by kernel_rfl) ?_
    refine E.G.op (.tuple #[.int .u32 ((V.load (M.near p) (M.opn p)).1), .int .u32 ((V.load (M.near p) (M.opn p)).2.1), .bool ((V.load (M.near p) (M.opn p)).2.2)]) (fun w => by kernel_rfl) (by kernel_rfl) ?_
    refine E.G.op (.int .u32 ((V.load (M.near p) (M.opn p)).1)) (fun w => by kernel_rfl) (by kernel_rfl) ?_
    refine E.G.op (.int .u32 ((V.load (M.near p) (M.opn p)).2.1)) (fun w => by kernel_rfl) (by kernel_rfl) ?_
    refine E.G.op (.bool ((V.load (M.near p) (M.opn p)).2.2)) (fun w => by kernel_rfl) (by kernel_rfl) ?_
    refine E.G.op (.int .u32 ((V.load (M.near p) (M.opn p)).1)) (fun w => by kernel_rfl) (by kernel_rfl) ?_
    refine E.G.op (.int .u32 ((V.load (M.near p) (M.opn p)).2.1)) (fun w => by kernel_rfl) (by kernel_rfl) ?_
    refine E.G.op (.bool ((V.load (M.near p) (M.opn p)).2.2)) (fun w => by kernel_rfl) (by kernel_rfl) ?_
    refine E.To.code ?_
    refine E.C.weak [(2, .pointer (some ⟨g1, 0, none⟩)), (4, .bool false), (5, .int .u32 ((M.near p : Nat) : Int)), (6, .int .i64 (bif ((bits .and .u8 p.o 4) == 0) then (IntKind.wrap .i64 (1 + (bits .and .i64 p.n 3))) else p.n)), (9, .int .u32 ((V.load (M.near p) (M.opn p)).1)), (10, .int .u32 ((V.load (M.near p) (M.opn p)).2.1)), (11, .bool ((V.load (M.near p) (M.opn p)).2.2))] [(g1, [.pointer (some ⟨m, 0, none⟩), .pointer (some ⟨r, 0, none⟩)])] ⟨by kernel_rfl, by kernel_rfl⟩ (List.Sublist.cons _ (List.Sublist.refl _)) ?_
    refine E.C.seq ?_
    refine E.C.region ?_
    refine E.G.op (.pointer (some ⟨g1, 1, none⟩)) (fun w => by kernel_rfl) (by kernel_rfl) ?_
    refine E.G.val (.pointer (some ⟨r, 0, none⟩)) (by kernel_rfl) (fun w h => E.run_load h 0 rfl rfl (by kernel_rfl)) ?_
    refine E.G.op (.int .u32 ((M.near p : Nat) : Int)) (fun w => by kernel_rfl) (by kernel_rfl) ?_
    refine E.G.op (.int .i64 (M.opn p)) (fun w => by kernel_rfl) (by kernel_rfl) ?_
    refine E.G.call (.agg #[.int .u32 ((V.load (M.near p) (M.opn p)).1), .int .u32 ((V.load (M.near p) (M.opn p)).2.1), .bool ((V.load (M.near p) (M.opn p)).2.2)]) (fun w h => A.call_rd [A.blk g1 ([.pointer (some ⟨m, 0, none⟩), .pointer (some ⟨r, 0, none⟩)]), M.It m V ([])] (B_Load (M.near p) (by first | exact M.near_lt _ | (first | assumption | ((try simp only [Bool.or_eq_false_iff, Bool.or_eq_true, Bool.and_eq_true, Bool.and_eq_false_iff, Bool.not_eq_eq_eq_not, Bool.not_true, Bool.not_false, decide_eq_true_eq, decide_eq_false_iff_not, ge_iff_le, gt_iff_lt] at *); omega))) (M.opn p) (r := r) (V := V)) h (by kernel_rfl) (A.pm [2, 0, 1] (by kernel_rfl) (by kernel_rfl))) (fun w _ => by kernel_rfl) (by kernel_rfl) ?_
    refine E.G.new (fun g => .pointer (some ⟨g, 0, none⟩)) [.int .u32 0, .int .u32 0, .bool false] 93 (fun w => by kernel_rfl) (by kernel_rfl) (fun g8 => ?_)
    refine E.G.store 0 [.int .u32 ((V.load (M.near p) (M.opn p)).1), .int .u32 ((V.load (M.near p) (M.opn p)).2.1), .bool ((V.load (M.near p) (M.opn p)).2.2)] rfl rfl (by kernel_rfl) (by kernel_rfl) ?_
    refine E.To.code ?_
    refine E.C.weak [(4, .bool false), (9, .int .u32 ((V.load (M.near p) (M.opn p)).1)), (10, .int .u32 ((V.load (M.near p) (M.opn p)).2.1)), (11, .bool ((V.load (M.near p) (M.opn p)).2.2)), (12, .pointer (some ⟨g8, 0, none⟩))] [(g8, [.int .u32 ((V.load (M.near p) (M.opn p)).1), .int .u32 ((V.load (M.near p) (M.opn p)).2.1), .bool ((V.load (M.near p) (M.opn p)).2.2)])] ⟨by kernel_rfl, by kernel_rfl⟩ (List.Sublist.cons_cons _ (List.nil_sublist _)) ?_
    refine E.C.seq ?_
    refine E.C.region ?_
    refine E.G.op (.int .u32 ((V.load (M.near p) (M.opn p)).1)) (fun w => by kernel_rfl) (by kernel_rfl) ?_
    refine E.G.op (.pointer (some ⟨g8, 0, none⟩)) (fun w => by kernel_rfl) (by kernel_rfl) ?_
    refine E.G.val (.int .u32 ((V.load (M.near p) (M.opn p)).1)) (by kernel_rfl) (fun w h => E.run_load h 0 rfl rfl (by kernel_rfl)) ?_
    refine E.G.val (.bool true) (by kernel_rfl) (fun w h => E.run_as (a := .bool (((V.load (M.near p) (M.opn p)).1) == ((V.load (M.near p) (M.opn p)).1))) (by kernel_rfl) (congrArg Value.bool (beq_self_eq_true _))) ?_
    refine E.G.op (.bool true) (fun w => by kernel_rfl) (by kernel_rfl) ?_
    refine E.G.op (.int .u32 ((V.load (M.near p) (M.opn p)).2.1)) (fun w => by kernel_rfl) (by kernel_rfl) ?_
    refine E.G.op (.pointer (some ⟨g8, 1, none⟩)) (fun w => by kernel_rfl) (by kernel_rfl) ?_
    refine E.G.val (.int .u32 ((V.load (M.near p) (M.opn p)).2.1)) (by kernel_rfl) (fun w h => E.run_load h 0 rfl rfl (by kernel_rfl)) ?_
    refine E.G.val (.bool true) (by kernel_rfl) (fun w h => E.run_as (a := .bool (((V.load (M.near p) (M.opn p)).2.1) == ((V.load (M.near p) (M.opn p)).2.1))) (by kernel_rfl) (congrArg Value.bool (beq_self_eq_true _))) ?_
    refine E.G.op (.bool true) (fun w => by kernel_rfl) (by kernel_rfl) ?_
    refine E.G.op (.bool true) (fun w => by kernel_rfl) (by kernel_rfl) ?_
    refine E.G.op (.bool ((V.load (M.near p) (M.opn p)).2.2)) (fun w => by kernel_rfl) (by kernel_rfl) ?_
    refine E.G.op (.pointer (some ⟨g8, 2, none⟩)) (fun w => by kernel_rfl) (by kernel_rfl) ?_
    refine E.G.val (.bool ((V.load (M.near p) (M.opn p)).2.2)) (by kernel_rfl) (fun w h => E.run_load h 0 rfl rfl (by kernel_rfl)) ?_
    refine E.G.val (.bool true) (by kernel_rfl) (fun w h => E.run_as (a := .bool ((V.load (M.near p) (M.opn p)).2.2 == (V.load (M.near p) (M.opn p)).2.2)) (by kernel_rfl) (congrArg Value.bool (beq_self_eq_true _))) ?_
    refine E.G.op (.bool true) (fun w => by kernel_rfl) (by kernel_rfl) ?_
    refine E.G.op (.bool true) (fun w => by kernel_rfl) (by kernel_rfl) ?_
    refine E.To.code ?_
    refine E.C.weak [(4, .bool true)] [] ⟨by kernel_rfl, by kernel_rfl⟩ (List.nil_sublist _) ?_
    refine E.C.ret (E.P.rb (E.P.rt (E.To.body (fn := Try.f46) [.bool true] ?_ ?_)))
    · exact ⟨⟨by kernel_rfl, by kernel_rfl⟩, trivial⟩
    · intro w h
      have e : M.V.op V p = V := by unfold M.V.op; rw [hc7, cond_true]
      rw [e]
      exact ⟨(), trivial, rfl, A.done (q := [M.It m V ([]), R.It r V]) (r := []) h (by kernel_rfl) (A.pm [0, 1] (by kernel_rfl) (by kernel_rfl))⟩
  · skip
    refine E.C.seq ?_
    refine E.C.seq ?_
    refine E.C.region ?_
    refine E.G.op (.bool ((Int.tmod p.what 10) == 2)) (fun w => by kernel_rfl) (by kernel_rfl) ?_
    refine E.G.op (.bool ((Int.tmod p.what 10) == 2)) (fun w => by kernel_rfl) (by kernel_rfl) ?_
    refine E.To.code ?_
    refine E.C.thencut [(2, .pointer (some ⟨g1, 0, none⟩)), (3, .pointer (some ⟨g2, 0, none⟩)), (4, .bool false), (5, .int .u32 ((M.near p : Nat) : Int)), (6, .int .i64 (bif ((bits .and .u8 p.o 4) == 0) then (IntKind.wrap .i64 (1 + (bits .and .i64 p.n 3))) else p.n)), (7, .string (M.ops p)), (8, .int .i64 (M.opp p)), (45, .int .u8 (Int.tmod p.what 10)), (98, .bool (((Int.tmod p.what 10) == 2) || (((Int.tmod p.what 10) == 3) || ((Int.tmod p.what 10) == 4))))] (A.X w oo aa [M.It m V ([]), R.It r V]) [(g2, [.int .u8 p.what, .int .u32 ((p.a : Nat) : Int), .int .u32 ((p.v : Nat) : Int), .int .i64 p.n, .string p.s, .int .u8 p.o]), (g1, [.pointer (some ⟨m, 0, none⟩), .pointer (some ⟨r, 0, none⟩)])] ?_ ?_
    · skip
      generalize hc9 : ((Int.tmod p.what 10) == 2) = b10
      cases b10
      · skip
        refine E.C.condF (by kernel_rfl) (by kernel_rfl) ?_
        refine E.C.seq ?_
        refine E.C.region ?_
        refine E.G.op (.bool ((Int.tmod p.what 10) == 3)) (fun w => by kernel_rfl) (by kernel_rfl) ?_
        refine E.G.op (.bool ((Int.tmod p.what 10) == 3)) (fun w => by kernel_rfl) (by kernel_rfl) ?_
        refine E.To.code ?_
        generalize hc11 : ((Int.tmod p.what 10) == 3) = b12
        cases b12
        · skip
          refine E.C.condF (by kernel_rfl) (by kernel_rfl) ?_
          refine E.C.region ?_
          refine E.G.op (.bool ((Int.tmod p.what 10) == 4)) (fun w => by kernel_rfl) (by kernel_rfl) ?_
          refine E.G.op (.bool ((Int.tmod p.what 10) == 4)) (fun w => by kernel_rfl) (by kernel_rfl) ?_
          exact E.To.pst ⟨by kernel_rfl, by kernel_rfl⟩ (List.Sublist.refl _) (fun _ h => h)
        · skip
          refine E.C.condT (by kernel_rfl) (by kernel_rfl) ?_
          exact E.C.skip (E.To.pst ⟨by kernel_rfl, by kernel_rfl⟩ (List.Sublist.refl _) (fun _ h => h))
      · skip
        refine E.C.condT (by kernel_rfl) (by kernel_rfl) ?_
        exact E.C.skip (E.To.pst ⟨by kernel_rfl, by kernel_rfl⟩ (List.Sublist.refl _) (fun _ h => h))
    refine E.C.cond (((Int.tmod p.what 10) == 2) || (((Int.tmod p.what 10) == 3) || ((Int.tmod p.what 10) == 4))) (by kernel_rfl) (by kernel_rfl) (fun hc13 => ?_) (fun hc13 => ?_)
    · skip
      refine E.C.seq ?_
      refine E.C.region ?_
      refine E.G.op (.pointer (some ⟨g1, 0, none⟩)) (fun w => by kernel_rfl) (by kernel_rfl) ?_
      refine E.G.val (.pointer (some ⟨m, 0, none⟩)) (by kernel_rfl) (fun w h => E.run_load h 1 rfl rfl (by kernel_rfl)) ?_
      refine E.G.op (.int .u32 ((M.near p : Nat) : Int)) (fun w => by kernel_rfl) (by kernel_rfl) ?_
      refine E.G.op (.int .i64 (M.opn p)) (fun w => by kernel_rfl) (by kernel_rfl) ?_
      refine E.G.op (.pointer (some ⟨g2, 2, none⟩)) (fun w => by kernel_rfl) (by kernel_rfl) ?_
      refine E.G.val (.int .u32 ((p.v : Nat) : Int)) (by kernel_rfl) (fun w h => E.run_load h 0 rfl rfl (by kernel_rfl)) ?_
      refine A.G.call (I := Unit) (D := fun _ => True) (V := fun _ => .tuple #[.int .u32 ((V.chk (M.near p) 2 (M.opn p)).1), .bool ((V.chk (M.near p) 2 (M.opn p)).2)]) (q := fun _ => [M.It m (V.sto (M.near p) (M.opn p) ((p.v : Nat) : Int)) ([])]) [A.blk g2 ([.int .u8 p.what, .int .u32 ((p.a : Nat) : Int), .int .u32 ((p.v : Nat) : Int), .int .i64 p.n, .string p.s, .int .u8 p.o]), A.blk g1 ([.pointer (some ⟨m, 0, none⟩), .pointer (some ⟨r, 0, none⟩)]), R.It r V] (fun _ => [(g2, [.int .u8 p.what, .int .u32 ((p.a : Nat) : Int), .int .u32 ((p.v : Nat) : Int), .int .i64 p.n, .string p.s, .int .u8 p.o]), (g1, [.pointer (some ⟨m, 0, none⟩), .pointer (some ⟨r, 0, none⟩)])]) (fun _ => [M.It m (V.sto (M.near p) (M.opn p) ((p.v : Nat) : Int)) ([]), R.It r V]) (A_Store (M.near p) (M.opn p) ((p.v : Nat) : Int) (by first | exact M.near_lt _ | (first | assumption | ((try simp only [Bool.or_eq_false_iff, Bool.or_eq_true, Bool.and_eq_true, Bool.and_eq_false_iff, Bool.not_eq_eq_eq_not, Bool.not_true, Bool.not_false, decide_eq_true_eq, decide_eq_false_iff_not, ge_iff_le, gt_iff_lt] at *); omega))) (m := m) (V := V) (xs := [])) (by kernel_rfl) (A.pm [2, 0, 1, 3] (by kernel_rfl) (by kernel_rfl)) (fun _ => A.pm [1, 2, 0, 3] (by kernel_rfl) (by kernel_rfl)) (fun w _ => by kernel_rfl) (by kernel_rfl) (fun _ hd14 => ?_)
      refine E.G.op (.tuple #[.int .u32 ((V.chk (M.near p) 2 (M.opn p)).1), .bool ((V.chk (M.near p) 2 (M.opn p)).2)]) (fun w => by kernel_rfl) (by kernel_rfl) ?_
      refine E.G.op (.int .u32 ((V.chk (M.near p) 2 (M.opn p)).1)) (fun w => by kernel_rfl) (by kernel_rfl) ?_
      refine E.G.op (.bool ((V.chk (M.near p) 2 (M.opn p)).2)) (fun w => by kernel_rfl) (by kernel_rfl) ?_
      refine E.G.op (.int .u32 ((V.chk (M.near p) 2 (M.opn p)).1)) (fun w => by kernel_rfl) (by kernel_rfl) ?_
      refine E.G.op (.bool ((V.chk (M.near p) 2 (M.opn p)).2)) (fun w => by kernel_rfl) (by kernel_rfl) ?_
      refine E.To.code ?_
      refine E.C.weak [(2, .pointer (some ⟨g1, 0, none⟩)), (3, .pointer (some ⟨g2, 0, none⟩)), (4, .bool false), (5, .int .u32 ((M.near p : Nat) : Int)), (6, .int .i64 (bif ((bits .and .u8 p.o 4) == 0) then (IntKind.wrap .i64 (1 + (bits .and .i64 p.n 3))) else p.n)), (13, .int .u32 ((V.chk (M.near p) 2 (M.opn p)).1)), (14, .bool ((V.chk (M.near p) 2 (M.opn p)).2))] [(g2, [.int .u8 p.what, .int .u32 ((p.a : Nat) : Int), .int .u32 ((p.v : Nat) : Int), .int .i64 p.n, .string p.s, .int .u8 p.o]), (g1, [.pointer (some ⟨m, 0, none⟩), .pointer (some ⟨r, 0, none⟩)])] ⟨by kernel_rfl, by kernel_rfl⟩ (List.Sublist.refl _) ?_
      refine E.C.seq ?_
      refine E.C.region ?_
      refine E.G.op (.pointer (some ⟨g1, 1, none⟩)) (fun w => by kernel_rfl) (by kernel_rfl) ?_
      refine E.G.val (.pointer (some ⟨r, 0, none⟩)) (by kernel_rfl) (fun w h => E.run_load h 1 rfl rfl (by kernel_rfl)) ?_
      refine E.G.op (.int .u32 ((M.near p : Nat) : Int)) (fun w => by kernel_rfl) (by kernel_rfl) ?_
      refine E.G.op (.int .i64 (M.opn p)) (fun w => by kernel_rfl) (by kernel_rfl) ?_
      refine E.G.op (.pointer (some ⟨g2, 2, none⟩)) (fun w => by kernel_rfl) (by kernel_rfl) ?_
      refine E.G.val (.int .u32 ((p.v : Nat) : Int)) (by kernel_rfl) (fun w h => E.run_load h 0 rfl rfl (by kernel_rfl)) ?_
      refine A.G.call (I := Unit) (D := fun _ => True) (V := fun _ => .agg #[.int .u32 0, .int .u32 ((V.chk (M.near p) 2 (M.opn p)).1), .bool ((V.chk (M.near p) 2 (M.opn p)).2)]) (q := fun _ => [R.It r (V.sto (M.near p) (M.opn p) ((p.v : Nat) : Int))]) [A.blk g2 ([.int .u8 p.what, .int .u32 ((p.a : Nat) : Int), .int .u32 ((p.v : Nat) : Int), .int .i64 p.n, .string p.s, .int .u8 p.o]), A.blk g1 ([.pointer (some ⟨m, 0, none⟩), .pointer (some ⟨r, 0, none⟩)]), M.It m (V.sto (M.near p) (M.opn p) ((p.v : Nat) : Int)) ([])] (fun _ => [(g2, [.int .u8 p.what, .int .u32 ((p.a : Nat) : Int), .int .u32 ((p.v : Nat) : Int), .int .i64 p.n, .string p.s, .int .u8 p.o]), (g1, [.pointer (some ⟨m, 0, none⟩), .pointer (some ⟨r, 0, none⟩)])]) (fun _ => [M.It m (V.sto (M.near p) (M.opn p) ((p.v : Nat) : Int)) ([]), R.It r (V.sto (M.near p) (M.opn p) ((p.v : Nat) : Int))]) (B_Store (M.near p) (by first | exact M.near_lt _ | (first | assumption | ((try simp only [Bool.or_eq_false_iff, Bool.or_eq_true, Bool.and_eq_true, Bool.and_eq_false_iff, Bool.not_eq_eq_eq_not, Bool.not_true, Bool.not_false, decide_eq_true_eq, decide_eq_false_iff_not, ge_iff_le, gt_iff_lt] at *); omega))) (M.opn p) ((p.v : Nat) : Int) (by first | (have := p.hv; omega) | (first | assumption | ((try simp only [Bool.or_eq_false_iff, Bool.or_eq_true, Bool.and_eq_true, Bool.and_eq_false_iff, Bool.not_eq_eq_eq_not, Bool.not_true, Bool.not_false, decide_eq_true_eq, decide_eq_false_iff_not, ge_iff_le, gt_iff_lt] at *); omega))) (r := r) (V := V)) (by kernel_rfl) (A.pm [3, 0, 1, 2] (by kernel_rfl) (by kernel_rfl)) (fun _ => A.pm [1, 2, 3, 0] (by kernel_rfl) (by kernel_rfl)) (fun w _ => by kernel_rfl) (by kernel_rfl) (fun _ hd15 => ?_)
      refine E.G.new (fun g => .pointer (some ⟨g, 0, none⟩)) [.int .u32 0, .int .u32 0, .bool false] 93 (fun w => by kernel_rfl) (by kernel_rfl) (fun g16 => ?_)
      refine E.G.store 0 [.int .u32 0, .int .u32 ((V.chk (M.near p) 2 (M.opn p)).1), .bool ((V.chk (M.near p) 2 (M.opn p)).2)] rfl rfl (by kernel_rfl) (by kernel_rfl) ?_
      refine E.To.code ?_
      refine E.C.weak [(4, .bool false), (13, .int .u32 ((V.chk (M.near p) 2 (M.opn p)).1)), (14, .bool ((V.chk (M.near p) 2 (M.opn p)).2)), (15, .pointer (some ⟨g16, 0, none⟩))] [(g16, [.int .u32 0, .int .u32 ((V.chk (M.near p) 2 (M.opn p)).1), .bool ((V.chk (M.near p) 2 (M.opn p)).2)])] ⟨by kernel_rfl, by kernel_rfl⟩ (List.Sublist.cons_cons _ (List.nil_sublist _)) ?_
      refine E.C.seq ?_
      refine E.C.region ?_
      refine E.G.op (.int .u32 ((V.chk (M.near p) 2 (M.opn p)).1)) (fun w => by kernel_rfl) (by kernel_rfl) ?_
      refine E.G.op (.pointer (some ⟨g16, 1, none⟩)) (fun w => by kernel_rfl) (by kernel_rfl) ?_
      refine E.G.val (.int .u32 ((V.chk (M.near p) 2 (M.opn p)).1)) (by kernel_rfl) (fun w h => E.run_load h 0 rfl rfl (by kernel_rfl)) ?_
      refine E.G.val (.bool true) (by kernel_rfl) (fun w h => E.run_as (a := .bool (((V.chk (M.near p) 2 (M.opn p)).1) == ((V.chk (M.near p) 2 (M.opn p)).1))) (by kernel_rfl) (congrArg Value.bool (beq_self_eq_true _))) ?_
      refine E.G.op (.bool true) (fun w => by kernel_rfl) (by kernel_rfl) ?_
      refine E.G.op (.bool ((V.chk (M.near p) 2 (M.opn p)).2)) (fun w => by kernel_rfl) (by kernel_rfl) ?_
      refine E.G.op (.pointer (some ⟨g16, 2, none⟩)) (fun w => by kernel_rfl) (by kernel_rfl) ?_
      refine E.G.val (.bool ((V.chk (M.near p) 2 (M.opn p)).2)) (by kernel_rfl) (fun w h => E.run_load h 0 rfl rfl (by kernel_rfl)) ?_
      refine E.G.val (.bool true) (by kernel_rfl) (fun w h => E.run_as (a := .bool ((V.chk (M.near p) 2 (M.opn p)).2 == (V.chk (M.near p) 2 (M.opn p)).2)) (by kernel_rfl) (congrArg Value.bool (beq_self_eq_true _))) ?_
      refine E.G.op (.bool true) (fun w => by kernel_rfl) (by kernel_rfl) ?_
      refine E.G.op (.bool true) (fun w => by kernel_rfl) (by kernel_rfl) ?_
      refine E.To.code ?_
      refine E.C.weak [(4, .bool true)] [] ⟨by kernel_rfl, by kernel_rfl⟩ (List.nil_sublist _) ?_
      refine E.C.ret (E.P.rb (E.P.rt (E.To.body (fn := Try.f46) [.bool true] ?_ ?_)))
      · exact ⟨⟨by kernel_rfl, by kernel_rfl⟩, trivial⟩
      · intro w h
        have e : M.V.op V p = (V.sto (M.near p) (M.opn p) ((p.v : Nat) : Int)) := by unfold M.V.op; rw [hc7, cond_false, hc13, cond_true]
        rw [e]
        exact ⟨(), trivial, rfl, A.done (q := [M.It m (V.sto (M.near p) (M.opn p) ((p.v : Nat) : Int)) ([]), R.It r (V.sto (M.near p) (M.opn p) ((p.v : Nat) : Int))]) (r := []) h (by kernel_rfl) (A.pm [0, 1] (by kernel_rfl) (by kernel_rfl))⟩
    · skip
      refine E.C.seq ?_
      refine E.C.region ?_
      refine E.G.op (.bool ((Int.tmod p.what 10) == 5)) (fun w => by kernel_rfl) (by kernel_rfl) ?_
      refine E.G.op (.bool ((Int.tmod p.what 10) == 5)) (fun w => by kernel_rfl) (by kernel_rfl) ?_
      refine E.To.code ?_
      refine E.C.cond ((Int.tmod p.what 10) == 5) (by kernel_rfl) (by kernel_rfl) (fun hc17 => ?_) (fun hc17 => ?_)
      · skip
        refine E.C.seq ?_
        refine E.C.region ?_
        refine E.G.op (.pointer (some ⟨g1, 0, none⟩)) (fun w => by kernel_rfl) (by kernel_rfl) ?_
        refine E.G.val (.pointer (some ⟨m, 0, none⟩)) (by kernel_rfl) (fun w h => E.run_load h 1 rfl rfl (by kernel_rfl)) ?_
        refine E.G.op (.int .u32 ((M.near p : Nat) : Int)) (fun w => by kernel_rfl) (by kernel_rfl) ?_
        refine E.G.call (.tuple #[.int .u8 ((V.fetch (M.near p)).1), .bool ((V.fetch (M.near p)).2)]) (fun w h => A.call_rd [A.blk g2 ([.int .u8 p.what, .int .u32 ((p.a : Nat) : Int), .int .u32 ((p.v : Nat) : Int), .int .i64 p.n, .string p.s, .int .u8 p.o]), A.blk g1 ([.pointer (some ⟨m, 0, none⟩), .pointer (some ⟨r, 0, none⟩)]), R.It r V] (A_Fetch (M.near p) (by first | exact M.near_lt _ | (first | assumption | ((try simp only [Bool.or_eq_false_iff, Bool.or_eq_true, Bool.and_eq_true, Bool.and_eq_false_iff, Bool.not_eq_eq_eq_not, Bool.not_true, Bool.not_false, decide_eq_true_eq, decide_eq_false_iff_not, ge_iff_le, gt_iff_lt] at *); omega))) (m := m) (V := V) (xs := [])) h (by kernel_rfl) (A.pm [2, 0, 1, 3] (by kernel_rfl) (by kernel_rfl))) (fun w _ => by kernel_rfl) (by kernel_rfl) ?_
        refine E.G.op (.tuple #[.int .u8 ((V.fetch (M.near p)).1), .bool ((V.fetch (M.near p)).2)]) (fun w => by kernel_rfl) (by kernel_rfl) ?_
        refine E.G.op (.int .u8 ((V.fetch (M.near p)).1)) (fun w => by kernel_rfl) (by kernel_rfl) ?_
        refine E.G.op (.bool ((V.fetch (M.near p)).2)) (fun w => by kernel_rfl) (by kernel_rfl) ?_
        refine E.G.op (.int .u8 ((V.fetch (M.near p)).1)) (fun w => by kernel_rfl) (by kernel_rfl) ?_
        refine E.G.op (.bool ((V.fetch (M.near p)).2)) (fun w => by kernel_rfl) (by kernel_rfl) ?_
        refine E.To.code ?_
        refine E.C.weak [(2, .pointer (some ⟨g1, 0, none⟩)), (4, .bool false), (5, .int .u32 ((M.near p : Nat) : Int)), (16, .int .u8 ((V.fetch (M.near p)).1)), (17, .bool ((V.fetch (M.near p)).2))] [(g1, [.pointer (some ⟨m, 0, none⟩), .pointer (some ⟨r, 0, none⟩)])] ⟨by kernel_rfl, by kernel_rfl⟩ (List.Sublist.cons _ (List.Sublist.refl _)) ?_
        refine E.C.seq ?_
        refine E.C.region ?_
        refine E.G.op (.pointer (some ⟨g1, 1, none⟩)) (fun w => by kernel_rfl) (by kernel_rfl) ?_
        refine E.G.val (.pointer (some ⟨r, 0, none⟩)) (by kernel_rfl) (fun w h => E.run_load h 0 rfl rfl (by kernel_rfl)) ?_
        refine E.G.op (.int .u32 ((M.near p : Nat) : Int)) (fun w => by kernel_rfl) (by kernel_rfl) ?_
        refine E.G.call (.agg #[.int .u32 ((V.fetch (M.near p)).1), .int .u32 (if (V.fetch (M.near p)).2 then 0 else ((M.near p : Nat) : Int)), .bool ((V.fetch (M.near p)).2)]) (fun w h => A.call_rd [A.blk g1 ([.pointer (some ⟨m, 0, none⟩), .pointer (some ⟨r, 0, none⟩)]), M.It m V ([])] (B_Fetch (M.near p) (by first | exact M.near_lt _ | (first | assumption | ((try simp only [Bool.or_eq_false_iff, Bool.or_eq_true, Bool.and_eq_true, Bool.and_eq_false_iff, Bool.not_eq_eq_eq_not, Bool.not_true, Bool.not_false, decide_eq_true_eq, decide_eq_false_iff_not, ge_iff_le, gt_iff_lt] at *); omega))) (r := r) (V := V)) h (by kernel_rfl) (A.pm [2, 0, 1] (by kernel_rfl) (by kernel_rfl))) (fun w _ => by kernel_rfl) (by kernel_rfl) ?_
        refine E.G.new (fun g => .pointer (some ⟨g, 0, none⟩)) [.int .u32 0, .int .u32 0, .bool false] 93 (fun w => by kernel_rfl) (by kernel_rfl) (fun g18 => ?_)
        refine E.G.store 0 [.int .u32 ((V.fetch (M.near p)).1), .int .u32 (if (V.fetch (M.near p)).2 then 0 else ((M.near p : Nat) : Int)), .bool ((V.fetch (M.near p)).2)] rfl rfl (by kernel_rfl) (by kernel_rfl) ?_
        refine E.To.code ?_
        refine E.C.seq ?_
        refine E.C.region ?_
        refine E.G.op (.int .u8 ((V.fetch (M.near p)).1)) (fun w => by kernel_rfl) (by kernel_rfl) ?_
        refine E.G.val (.int .u32 ((V.fetch (M.near p)).1)) (by kernel_rfl) (fun w h => E.run_as (a := .int .u32 (IntKind.wrap .u32 ((V.fetch (M.near p)).1))) (by kernel_rfl) (congrArg (Value.int .u32) (R.u8_32 (R.fetch_bd hw _)))) ?_
        refine E.G.op (.pointer (some ⟨g18, 0, none⟩)) (fun w => by kernel_rfl) (by kernel_rfl) ?_
        refine E.G.val (.int .u32 ((V.fetch (M.near p)).1)) (by kernel_rfl) (fun w h => E.run_load h 0 rfl rfl (by kernel_rfl)) ?_
        refine E.G.val (.bool true) (by kernel_rfl) (fun w h => E.run_as (a := .bool (((V.fetch (M.near p)).1) == ((V.fetch (M.near p)).1))) (by kernel_rfl) (congrArg Value.bool (beq_self_eq_true _))) ?_
        refine E.G.op (.bool true) (fun w => by kernel_rfl) (by kernel_rfl) ?_
        refine E.G.op (.bool ((V.fetch (M.near p)).2)) (fun w => by kernel_rfl) (by kernel_rfl) ?_
        refine E.G.op (.pointer (some ⟨g18, 2, none⟩)) (fun w => by kernel_rfl) (by kernel_rfl) ?_
        refine E.G.val (.bool ((V.fetch (M.near p)).2)) (by kernel_rfl) (fun w h => E.run_load h 0 rfl rfl (by kernel_rfl)) ?_
        refine E.G.val (.bool true) (by kernel_rfl) (fun w h => E.run_as (a := .bool ((V.fetch (M.near p)).2 == (V.fetch (M.near p)).2)) (by kernel_rfl) (congrArg Value.bool (beq_self_eq_true _))) ?_
        refine E.G.op (.bool true) (fun w => by kernel_rfl) (by kernel_rfl) ?_
        refine E.G.op (.bool true) (fun w => by kernel_rfl) (by kernel_rfl) ?_
        refine E.To.code ?_
        refine E.C.weak [(4, .bool true)] [] ⟨by kernel_rfl, by kernel_rfl⟩ (List.nil_sublist _) ?_
        refine E.C.ret (E.P.rb (E.P.rt (E.To.body (fn := Try.f46) [.bool true] ?_ ?_)))
        · exact ⟨⟨by kernel_rfl, by kernel_rfl⟩, trivial⟩
        · intro w h
          have e : M.V.op V p = V := by unfold M.V.op; rw [hc7, cond_false, hc13, cond_false, hc17, cond_true]
          rw [e]
          exact ⟨(), trivial, rfl, A.done (q := [M.It m V ([]), R.It r V]) (r := []) h (by kernel_rfl) (A.pm [0, 1] (by kernel_rfl) (by kernel_rfl))⟩
      · skip
        refine E.C.seq ?_
        refine E.C.region ?_
        refine E.G.op (.bool ((Int.tmod p.what 10) == 6)) (fun w => by kernel_rfl) (by kernel_rfl) ?_
        refine E.G.op (.bool ((Int.tmod p.what 10) == 6)) (fun w => by kernel_rfl) (by kernel_rfl) ?_
        refine E.To.code ?_
        refine E.C.cond ((Int.tmod p.what 10) == 6) (by kernel_rfl) (by kernel_rfl) (fun hc19 => ?_) (fun hc19 => ?_)
        · skip
          refine E.C.seq ?_
          refine E.C.held (A.Y [A.blk g2 ([.int .u8 p.what, .int .u32 ((p.a : Nat) : Int), .int .u32 ((p.v : Nat) : Int), .int .i64 p.n, .string p.s, .int .u8 p.o]), A.blk g1 ([.pointer (some ⟨m, 0, none⟩), .pointer (some ⟨r, 0, none⟩)])]) (by kernel_rfl) ?_
          refine E.H.take 0 (.pointer (some ⟨g1, 0, none⟩)) rfl (by kernel_rfl) (by kernel_rfl) (by kernel_rfl) (fun _ _ _ h => h) (fun w h => A.hpY (p := [A.blk g2 ([.int .u8 p.what, .int .u32 ((p.a : Nat) : Int), .int .u32 ((p.v : Nat) : Int), .int .i64 p.n, .string p.s, .int .u8 p.o]), A.blk g1 ([.pointer (some ⟨m, 0, none⟩), .pointer (some ⟨r, 0, none⟩)])]) (r := [M.It m V ([]), R.It r V]) h (by kernel_rfl) (A.pm [0, 1, 2, 3] (by kernel_rfl) (by kernel_rfl))) (.inl ⟨by kernel_rfl, by kernel_rfl, fun w h => by kernel_rfl⟩) (by kernel_rfl) ?_
          refine E.H.take 1 (.pointer (some ⟨m, 0, none⟩)) rfl (by kernel_rfl) (by kernel_rfl) (by kernel_rfl) (fun _ _ _ h => h) (fun w h => A.hpY (p := [A.blk g2 ([.int .u8 p.what, .int .u32 ((p.a : Nat) : Int), .int .u32 ((p.v : Nat) : Int), .int .i64 p.n, .string p.s, .int .u8 p.o]), A.blk g1 ([.pointer (some ⟨m, 0, none⟩), .pointer (some ⟨r, 0, none⟩)])]) (r := [M.It m V ([]), R.It r V]) h (by kernel_rfl) (A.pm [0, 1, 2, 3] (by kernel_rfl) (by kernel_rfl))) (.inl ⟨by kernel_rfl, by kernel_rfl, fun w h => A.Y.bld h (k := 1) (j := 0) rfl (by kernel_rfl) (by kernel_rfl)⟩) (by kernel_rfl) ?_
          refine E.H.take 2 (.int .u32 ((M.near p : Nat) : Int)) rfl (by kernel_rfl) (by kernel_rfl) (by kernel_rfl) (fun _ _ _ h => h) (fun w h => A.hpY (p := [A.blk g2 ([.int .u8 p.what, .int .u32 ((p.a : Nat) : Int), .int .u32 ((p.v : Nat) : Int), .int .i64 p.n, .string p.s, .int .u8 p.o]), A.blk g1 ([.pointer (some ⟨m, 0, none⟩), .pointer (some ⟨r, 0, none⟩)])]) (r := [M.It m V ([]), R.It r V]) h (by kernel_rfl) (A.pm [0, 1, 2, 3] (by kernel_rfl) (by kernel_rfl))) (.inl ⟨by kernel_rfl, by kernel_rfl, fun w h => by kernel_rfl⟩) (by kernel_rfl) ?_
          refine E.H.take 4 (.pointer (some ⟨g1, 1, none⟩)) rfl (by kernel_rfl) (by kernel_rfl) (by kernel_rfl) (fun _ _ _ h => h) (fun w h => A.hpY (p := [A.blk g2 ([.int .u8 p.what, .int .u32 ((p.a : Nat) : Int), .int .u32 ((p.v : Nat) : Int), .int .i64 p.n, .string p.s, .int .u8 p.o]), A.blk g1 ([.pointer (some ⟨m, 0, none⟩), .pointer (some ⟨r, 0, none⟩)])]) (r := [M.It m V ([]), R.It r V]) h (by kernel_rfl) (A.pm [0, 1, 2, 3] (by kernel_rfl) (by kernel_rfl))) (.inl ⟨by kernel_rfl, by kernel_rfl, fun w h => by kernel_rfl⟩) (by kernel_rfl) ?_
          refine E.H.take 5 (.pointer (some ⟨r, 0, none⟩)) rfl (by kernel_rfl) (by kernel_rfl) (by kernel_rfl) (fun _ _ _ h => h) (fun w h => A.hpY (p := [A.blk g2 ([.int .u8 p.what, .int .u32 ((p.a : Nat) : Int), .int .u32 ((p.v : Nat) : Int), .int .i64 p.n, .string p.s, .int .u8 p.o]), A.blk g1 ([.pointer (some ⟨m, 0, none⟩), .pointer (some ⟨r, 0, none⟩)])]) (r := [M.It m V ([]), R.It r V]) h (by kernel_rfl) (A.pm [0, 1, 2, 3] (by kernel_rfl) (by kernel_rfl))) (.inl ⟨by kernel_rfl, by kernel_rfl, fun w h => A.Y.bld h (k := 1) (j := 1) rfl (by kernel_rfl) (by kernel_rfl)⟩) (by kernel_rfl) ?_
          refine E.H.take 6 (.int .u32 ((M.near p : Nat) : Int)) rfl (by kernel_rfl) (by kernel_rfl) (by kernel_rfl) (fun _ _ _ h => h) (fun w h => A.hpY (p := [A.blk g2 ([.int .u8 p.what, .int .u32 ((p.a : Nat) : Int), .int .u32 ((p.v : Nat) : Int), .int .i64 p.n, .string p.s, .int .u8 p.o]), A.blk g1 ([.pointer (some ⟨m, 0, none⟩), .pointer (some ⟨r, 0, none⟩)])]) (r := [M.It m V ([]), R.It r V]) h (by kernel_rfl) (A.pm [0, 1, 2, 3] (by kernel_rfl) (by kernel_rfl))) (.inl ⟨by kernel_rfl, by kernel_rfl, fun w h => by kernel_rfl⟩) (by kernel_rfl) ?_
          refine E.H.all [3] (by kernel_rfl) (by simp) (List.forall_mem_cons.2 ⟨⟨_, rfl, ?_⟩, fun _ h => (List.not_mem_nil h).elim⟩)
          · skip
            refine A.G.call (I := Unit) (D := fun _ => True) (V := fun _ => .bool (decide ((M.near p) / 256 < V.n))) (q := fun _ => [M.It m (V.sync ((M.near p) / 256)) ([])]) [A.blk g2 ([.int .u8 p.what, .int .u32 ((p.a : Nat) : Int), .int .u32 ((p.v : Nat) : Int), .int .i64 p.n, .string p.s, .int .u8 p.o]), A.blk g1 ([.pointer (some ⟨m, 0, none⟩), .pointer (some ⟨r, 0, none⟩)]), R.It r V] (fun _ => [(g2, [.int .u8 p.what, .int .u32 ((p.a : Nat) : Int), .int .u32 ((p.v : Nat) : Int), .int .i64 p.n, .string p.s, .int .u8 p.o]), (g1, [.pointer (some ⟨m, 0, none⟩), .pointer (some ⟨r, 0, none⟩)])]) (fun _ => [M.It m (V.sync ((M.near p) / 256)) ([]), R.It r V]) (A_Sync (M.near p) (by first | exact M.near_lt _ | (first | assumption | ((try simp only [Bool.or_eq_false_iff, Bool.or_eq_true, Bool.and_eq_true, Bool.and_eq_false_iff, Bool.not_eq_eq_eq_not, Bool.not_true, Bool.not_false, decide_eq_true_eq, decide_eq_false_iff_not, ge_iff_le, gt_iff_lt] at *); omega))) (m := m) (V := V) (xs := [])) (by kernel_rfl) (A.pm [2, 0, 1, 3] (by kernel_rfl) (by kernel_rfl)) (fun _ => A.pm [1, 2, 0, 3] (by kernel_rfl) (by kernel_rfl)) (fun w _ => by kernel_rfl) (by kernel_rfl) (fun _ hd20 => ?_)
            refine E.H.back (fun w h => A.hpY (p := [A.blk g2 ([.int .u8 p.what, .int .u32 ((p.a : Nat) : Int), .int .u32 ((p.v : Nat) : Int), .int .i64 p.n, .string p.s, .int .u8 p.o]), A.blk g1 ([.pointer (some ⟨m, 0, none⟩), .pointer (some ⟨r, 0, none⟩)])]) (r := [M.It m (V.sync ((M.near p) / 256)) ([]), R.It r V]) h (by kernel_rfl) (A.pm [0, 1, 2, 3] (by kernel_rfl) (by kernel_rfl))) ?_
            refine E.H.all [7] (by kernel_rfl) (by simp) (List.forall_mem_cons.2 ⟨⟨_, rfl, ?_⟩, fun _ h => (List.not_mem_nil h).elim⟩)
            · skip
              refine A.G.call (I := Unit) (D := fun _ => True) (V := fun _ => .bool (decide ((M.near p) / 256 < V.n))) (q := fun _ => [R.It r (V.sync ((M.near p) / 256))]) [A.blk g2 ([.int .u8 p.what, .int .u32 ((p.a : Nat) : Int), .int .u32 ((p.v : Nat) : Int), .int .i64 p.n, .string p.s, .int .u8 p.o]), A.blk g1 ([.pointer (some ⟨m, 0, none⟩), .pointer (some ⟨r, 0, none⟩)]), M.It m (V.sync ((M.near p) / 256)) ([])] (fun _ => [(g2, [.int .u8 p.what, .int .u32 ((p.a : Nat) : Int), .int .u32 ((p.v : Nat) : Int), .int .i64 p.n, .string p.s, .int .u8 p.o]), (g1, [.pointer (some ⟨m, 0, none⟩), .pointer (some ⟨r, 0, none⟩)])]) (fun _ => [M.It m (V.sync ((M.near p) / 256)) ([]), R.It r (V.sync ((M.near p) / 256))]) (B_Sync (M.near p) (by first | exact M.near_lt _ | (first | assumption | ((try simp only [Bool.or_eq_false_iff, Bool.or_eq_true, Bool.and_eq_true, Bool.and_eq_false_iff, Bool.not_eq_eq_eq_not, Bool.not_true, Bool.not_false, decide_eq_true_eq, decide_eq_false_iff_not, ge_iff_le, gt_iff_lt] at *); omega))) (r := r) (V := V)) (by kernel_rfl) (A.pm [3, 0, 1, 2] (by kernel_rfl) (by kernel_rfl)) (fun _ => A.pm [1, 2, 3, 0] (by kernel_rfl) (by kernel_rfl)) (fun w _ => by kernel_rfl) (by kernel_rfl) (fun _ hd21 => ?_)
              refine E.H.back (fun w h => A.hpY (p := [A.blk g2 ([.int .u8 p.what, .int .u32 ((p.a : Nat) : Int), .int .u32 ((p.v : Nat) : Int), .int .i64 p.n, .string p.s, .int .u8 p.o]), A.blk g1 ([.pointer (some ⟨m, 0, none⟩), .pointer (some ⟨r, 0, none⟩)])]) (r := [M.It m (V.sync ((M.near p) / 256)) ([]), R.It r (V.sync ((M.near p) / 256))]) h (by kernel_rfl) (A.pm [0, 1, 2, 3] (by kernel_rfl) (by kernel_rfl))) ?_
              refine E.H.take 8 (.bool true) rfl (by kernel_rfl) (by kernel_rfl) (by kernel_rfl) (fun _ _ _ h => h) (fun w h => A.hpY (p := [A.blk g2 ([.int .u8 p.what, .int .u32 ((p.a : Nat) : Int), .int .u32 ((p.v : Nat) : Int), .int .i64 p.n, .string p.s, .int .u8 p.o]), A.blk g1 ([.pointer (some ⟨m, 0, none⟩), .pointer (some ⟨r, 0, none⟩)])]) (r := [M.It m (V.sync ((M.near p) / 256)) ([]), R.It r (V.sync ((M.near p) / 256))]) h (by kernel_rfl) (A.pm [0, 1, 2, 3] (by kernel_rfl) (by kernel_rfl))) (.inl ⟨by kernel_rfl, by kernel_rfl, fun w h => E.run_as (a := .bool ((decide ((M.near p) / 256 < V.n)) == (decide ((M.near p) / 256 < V.n)))) (by kernel_rfl) (congrArg Value.bool (beq_self_eq_true _))⟩) (by kernel_rfl) ?_
              refine E.H.take 9 (.bool true) rfl (by kernel_rfl) (by kernel_rfl) (by kernel_rfl) (fun _ _ _ h => h) (fun w h => A.hpY (p := [A.blk g2 ([.int .u8 p.what, .int .u32 ((p.a : Nat) : Int), .int .u32 ((p.v : Nat) : Int), .int .i64 p.n, .string p.s, .int .u8 p.o]), A.blk g1 ([.pointer (some ⟨m, 0, none⟩), .pointer (some ⟨r, 0, none⟩)])]) (r := [M.It m (V.sync ((M.near p) / 256)) ([]), R.It r (V.sync ((M.near p) / 256))]) h (by kernel_rfl) (A.pm [0, 1, 2, 3] (by kernel_rfl) (by kernel_rfl))) (.inl ⟨by kernel_rfl, by kernel_rfl, fun w h => by kernel_rfl⟩) (by kernel_rfl) ?_
              refine E.H.done (by kernel_rfl) ?_
              refine E.To.code ?_
              refine E.C.weak [(4, .bool true)] [] ⟨by kernel_rfl, by kernel_rfl⟩ (List.nil_sublist _) ?_
              refine E.C.ret (E.P.rb (E.P.rt (E.To.body (fn := Try.f46) [.bool true] ?_ ?_)))
              · exact ⟨⟨by kernel_rfl, by kernel_rfl⟩, trivial⟩
              · intro w h
                have e : M.V.op V p = (V.sync ((M.near p) / 256)) := by unfold M.V.op; rw [hc7, cond_false, hc13, cond_false, hc17, cond_false, hc19, cond_true]
                rw [e]
                exact ⟨(), trivial, rfl, A.done (q := [M.It m (V.sync ((M.near p) / 256)) ([]), R.It r (V.sync ((M.near p) / 256))]) (r := []) h (by kernel_rfl) (A.pm [0, 1] (by kernel_rfl) (by kernel_rfl))⟩
        · skip
          refine E.C.seq ?_
          refine E.C.region ?_
          refine E.G.op (.bool ((Int.tmod p.what 10) == 7)) (fun w => by kernel_rfl) (by kernel_rfl) ?_
          refine E.G.op (.bool ((Int.tmod p.what 10) == 7)) (fun w => by kernel_rfl) (by kernel_rfl) ?_
          refine E.To.code ?_
          refine E.C.cond ((Int.tmod p.what 10) == 7) (by kernel_rfl) (by kernel_rfl) (fun hc22 => ?_) (fun hc22 => ?_)
          · skip
            refine E.C.seq ?_
            refine E.C.region ?_
            refine E.G.op (.pointer (some ⟨g1, 0, none⟩)) (fun w => by kernel_rfl) (by kernel_rfl) ?_
            refine E.G.val (.pointer (some ⟨m, 0, none⟩)) (by kernel_rfl) (fun w h => E.run_load h 1 rfl rfl (by kernel_rfl)) ?_
            refine E.G.op (.int .u32 ((M.near p : Nat) : Int)) (fun w => by kernel_rfl) (by kernel_rfl) ?_
            refine E.G.op (.string (M.ops p)) (fun w => by kernel_rfl) (by kernel_rfl) ?_
            refine A.G.call (I := Unit) (D := fun _ => True) (V := fun _ => .tuple #[]) (q := fun _ => [M.It m (V.poke (M.near p) (M.ops p) (M.ops p).size) ([])]) [A.blk g2 ([.int .u8 p.what, .int .u32 ((p.a : Nat) : Int), .int .u32 ((p.v : Nat) : Int), .int .i64 p.n, .string p.s, .int .u8 p.o]), A.blk g1 ([.pointer (some ⟨m, 0, none⟩), .pointer (some ⟨r, 0, none⟩)]), R.It r V] (fun _ => [(g2, [.int .u8 p.what, .int .u32 ((p.a : Nat) : Int), .int .u32 ((p.v : Nat) : Int), .int .i64 p.n, .string p.s, .int .u8 p.o]), (g1, [.pointer (some ⟨m, 0, none⟩), .pointer (some ⟨r, 0, none⟩)])]) (fun _ => [M.It m (V.poke (M.near p) (M.ops p) (M.ops p).size) ([]), R.It r V]) (A_Poke (M.near p) (M.ops p) (by first | exact M.near_lt _ | (first | assumption | ((try simp only [Bool.or_eq_false_iff, Bool.or_eq_true, Bool.and_eq_true, Bool.and_eq_false_iff, Bool.not_eq_eq_eq_not, Bool.not_true, Bool.not_false, decide_eq_true_eq, decide_eq_false_iff_not, ge_iff_le, gt_iff_lt] at *); omega))) (by first | decide | exact M.ops_size _ | (first | assumption | ((try simp only [Bool.or_eq_false_iff, Bool.or_eq_true, Bool.and_eq_true, Bool.and_eq_false_iff, Bool.not_eq_eq_eq_not, Bool.not_true, Bool.not_false, decide_eq_true_eq, decide_eq_false_iff_not, ge_iff_le, gt_iff_lt] at *); omega))) (m := m) (V := V) (xs := [])) (by kernel_rfl) (A.pm [2, 0, 1, 3] (by kernel_rfl) (by kernel_rfl)) (fun _ => A.pm [1, 2, 0, 3] (by kernel_rfl) (by kernel_rfl)) (fun w _ => by kernel_rfl) (by kernel_rfl) (fun _ hd23 => ?_)
            refine E.To.code ?_
            refine E.C.weak [(2, .pointer (some ⟨g1, 0, none⟩)), (4, .bool false), (5, .int .u32 ((M.near p : Nat) : Int)), (7, .string (M.ops p))] [(g1, [.pointer (some ⟨m, 0, none⟩), .pointer (some ⟨r, 0, none⟩)])] ⟨by kernel_rfl, by kernel_rfl⟩ (List.Sublist.cons _ (List.Sublist.refl _)) ?_
            refine E.C.region ?_
            refine E.G.op (.pointer (some ⟨g1, 1, none⟩)) (fun w => by kernel_rfl) (by kernel_rfl) ?_
            refine E.G.val (.pointer (some ⟨r, 0, none⟩)) (by kernel_rfl) (fun w h => E.run_load h 0 rfl rfl (by kernel_rfl)) ?_
            refine E.G.op (.int .u32 ((M.near p : Nat) : Int)) (fun w => by kernel_rfl) (by kernel_rfl) ?_
            refine E.G.op (.string (M.ops p)) (fun w => by kernel_rfl) (by kernel_rfl) ?_
            refine A.G.call (I := Unit) (D := fun _ => True) (V := fun _ => .tuple #[]) (q := fun _ => [R.It r (V.poke (M.near p) (M.ops p) (M.ops p).size)]) [A.blk g1 ([.pointer (some ⟨m, 0, none⟩), .pointer (some ⟨r, 0, none⟩)]), M.It m (V.poke (M.near p) (M.ops p) (M.ops p).size) ([])] (fun _ => [(g1, [.pointer (some ⟨m, 0, none⟩), .pointer (some ⟨r, 0, none⟩)])]) (fun _ => [M.It m (V.poke (M.near p) (M.ops p) (M.ops p).size) ([]), R.It r (V.poke (M.near p) (M.ops p) (M.ops p).size)]) (B_Poke (M.near p) (by first | exact M.near_lt _ | (first | assumption | ((try simp only [Bool.or_eq_false_iff, Bool.or_eq_true, Bool.and_eq_true, Bool.and_eq_false_iff, Bool.not_eq_eq_eq_not, Bool.not_true, Bool.not_false, decide_eq_true_eq, decide_eq_false_iff_not, ge_iff_le, gt_iff_lt] at *); omega))) (M.ops p) (by first | decide | exact M.ops_size _ | (first | assumption | ((try simp only [Bool.or_eq_false_iff, Bool.or_eq_true, Bool.and_eq_true, Bool.and_eq_false_iff, Bool.not_eq_eq_eq_not, Bool.not_true, Bool.not_false, decide_eq_true_eq, decide_eq_false_iff_not, ge_iff_le, gt_iff_lt] at *); omega))) (r := r) (V := V)) (by kernel_rfl) (A.pm [2, 0, 1] (by kernel_rfl) (by kernel_rfl)) (fun _ => A.pm [1, 2, 0] (by kernel_rfl) (by kernel_rfl)) (fun w _ => by kernel_rfl) (by kernel_rfl) (fun _ hd24 => ?_)
            refine E.P.nb (E.To.code ?_)
            refine E.C.weak [(4, .bool false)] [] ⟨by kernel_rfl, by kernel_rfl⟩ (List.nil_sublist _) ?_
            refine E.C.seq ?_
            refine E.C.region ?_
            refine E.G.op (.bool true) (fun w => by kernel_rfl) (by kernel_rfl) ?_
            refine E.To.code ?_
            refine E.C.ret (E.To.body (fn := Try.f46) [.bool true] ?_ ?_)
            · exact ⟨⟨by kernel_rfl, by kernel_rfl⟩, trivial⟩
            · intro w h
              have e : M.V.op V p = (V.poke (M.near p) (M.ops p) (M.ops p).size) := by unfold M.V.op; rw [hc7, cond_false, hc13, cond_false, hc17, cond_false, hc19, cond_false, hc22, cond_true]
              rw [e]
              exact ⟨(), trivial, rfl, A.done (q := [M.It m (V.poke (M.near p) (M.ops p) (M.ops p).size) ([]), R.It r (V.poke (M.near p) (M.ops p) (M.ops p).size)]) (r := []) h (by kernel_rfl) (A.pm [0, 1] (by kernel_rfl) (by kernel_rfl))⟩
          · skip
            refine E.C.seq ?_
            refine E.C.region ?_
            refine E.G.op (.bool ((Int.tmod p.what 10) == 8)) (fun w => by kernel_rfl) (by kernel_rfl) ?_
            refine E.G.op (.bool ((Int.tmod p.what 10) == 8)) (fun w => by kernel_rfl) (by kernel_rfl) ?_
            refine E.To.code ?_
            refine E.C.weak [(2, .pointer (some ⟨g1, 0, none⟩)), (4, .bool false), (6, .int .i64 (bif ((bits .and .u8 p.o 4) == 0) then (IntKind.wrap .i64 (1 + (bits .and .i64 p.n 3))) else p.n)), (7, .string (M.ops p)), (8, .int .i64 (M.opp p)), (176, .bool ((Int.tmod p.what 10) == 8))] [(g1, [.pointer (some ⟨m, 0, none⟩), .pointer (some ⟨r, 0, none⟩)])] ⟨by kernel_rfl, by kernel_rfl⟩ (List.Sublist.cons _ (List.Sublist.refl _)) ?_
            refine E.C.cond ((Int.tmod p.what 10) == 8) (by kernel_rfl) (by kernel_rfl) (fun hc25 => ?_) (fun hc25 => ?_)
            · skip
              refine E.C.seq ?_
              refine E.C.region ?_
              refine E.G.op (.pointer (some ⟨g1, 0, none⟩)) (fun w => by kernel_rfl) (by kernel_rfl) ?_
              refine E.G.val (.pointer (some ⟨m, 0, none⟩)) (by kernel_rfl) (fun w h => E.run_load h 0 rfl rfl (by kernel_rfl)) ?_
              refine E.G.op (.int .i64 (M.opp p)) (fun w => by kernel_rfl) (by kernel_rfl) ?_
              refine E.G.op (.string (M.ops p)) (fun w => by kernel_rfl) (by kernel_rfl) ?_
              refine A.G.call (I := Unit) (D := fun _ => True) (V := fun _ => .tuple #[]) (q := fun _ => [M.It m (V.setc (M.opp p) (M.ops p)) ([])]) [A.blk g1 ([.pointer (some ⟨m, 0, none⟩), .pointer (some ⟨r, 0, none⟩)]), R.It r V] (fun _ => [(g1, [.pointer (some ⟨m, 0, none⟩), .pointer (some ⟨r, 0, none⟩)])]) (fun _ => [M.It m (V.setc (M.opp p) (M.ops p)) ([]), R.It r V]) (A_SetCode (M.opp p) (M.ops p) (m := m) (V := V) (xs := [])) (by kernel_rfl) (A.pm [1, 0, 2] (by kernel_rfl) (by kernel_rfl)) (fun _ => A.pm [1, 0, 2] (by kernel_rfl) (by kernel_rfl)) (fun w _ => by kernel_rfl) (by kernel_rfl) (fun _ hd26 => ?_)
              refine E.To.code ?_
              refine E.C.region ?_
              refine E.G.op (.pointer (some ⟨g1, 1, none⟩)) (fun w => by kernel_rfl) (by kernel_rfl) ?_
              refine E.G.val (.pointer (some ⟨r, 0, none⟩)) (by kernel_rfl) (fun w h => E.run_load h 0 rfl rfl (by kernel_rfl)) ?_
              refine E.G.op (.int .i64 (M.opp p)) (fun w => by kernel_rfl) (by kernel_rfl) ?_
              refine E.G.op (.string (M.ops p)) (fun w => by kernel_rfl) (by kernel_rfl) ?_
              refine A.G.call (I := Unit) (D := fun _ => True) (V := fun _ => .tuple #[]) (q := fun _ => [R.It r (V.setc (M.opp p) (M.ops p))]) [A.blk g1 ([.pointer (some ⟨m, 0, none⟩), .pointer (some ⟨r, 0, none⟩)]), M.It m (V.setc (M.opp p) (M.ops p)) ([])] (fun _ => [(g1, [.pointer (some ⟨m, 0, none⟩), .pointer (some ⟨r, 0, none⟩)])]) (fun _ => [M.It m (V.setc (M.opp p) (M.ops p)) ([]), R.It r (V.setc (M.opp p) (M.ops p))]) (B_SetCode (M.opp p) (M.ops p) (r := r) (V := V)) (by kernel_rfl) (A.pm [2, 0, 1] (by kernel_rfl) (by kernel_rfl)) (fun _ => A.pm [1, 2, 0] (by kernel_rfl) (by kernel_rfl)) (fun w _ => by kernel_rfl) (by kernel_rfl) (fun _ hd27 => ?_)
              refine E.P.nb (E.To.code ?_)
              refine E.C.weak [(4, .bool false)] [] ⟨by kernel_rfl, by kernel_rfl⟩ (List.nil_sublist _) ?_
              refine E.C.seq ?_
              refine E.C.region ?_
              refine E.G.op (.bool true) (fun w => by kernel_rfl) (by kernel_rfl) ?_
              refine E.To.code ?_
              refine E.C.ret (E.To.body (fn := Try.f46) [.bool true] ?_ ?_)
              · exact ⟨⟨by kernel_rfl, by kernel_rfl⟩, trivial⟩
              · intro w h
                have e : M.V.op V p = (V.setc (M.opp p) (M.ops p)) := by unfold M.V.op; rw [hc7, cond_false, hc13, cond_false, hc17, cond_false, hc19, cond_false, hc22, cond_false, hc25, cond_true]
                rw [e]
                exact ⟨(), trivial, rfl, A.done (q := [M.It m (V.setc (M.opp p) (M.ops p)) ([]), R.It r (V.setc (M.opp p) (M.ops p))]) (r := []) h (by kernel_rfl) (A.pm [0, 1] (by kernel_rfl) (by kernel_rfl))⟩
            · skip
              refine E.C.seq ?_
              refine E.C.region ?_
              refine E.G.op (.pointer (some ⟨g1, 0, none⟩)) (fun w => by kernel_rfl) (by kernel_rfl) ?_
              refine E.G.val (.pointer (some ⟨m, 0, none⟩)) (by kernel_rfl) (fun w h => E.run_load h 0 rfl rfl (by kernel_rfl)) ?_
              refine E.G.op (.int .i64 (M.opp p)) (fun w => by kernel_rfl) (by kernel_rfl) ?_
              refine E.G.op (.int .i64 (M.opn p)) (fun w => by kernel_rfl) (by kernel_rfl) ?_
              refine A.G.call (I := Unit) (D := fun _ => True) (V := fun _ => .tuple #[]) (q := fun _ => [M.It m (V.prot (M.opp p) (M.opn p)) ([])]) [A.blk g1 ([.pointer (some ⟨m, 0, none⟩), .pointer (some ⟨r, 0, none⟩)]), R.It r V] (fun _ => [(g1, [.pointer (some ⟨m, 0, none⟩), .pointer (some ⟨r, 0, none⟩)])]) (fun _ => [M.It m (V.prot (M.opp p) (M.opn p)) ([]), R.It r V]) (A_Protect (M.opp p) (M.opn p) (m := m) (V := V) (xs := [])) (by kernel_rfl) (A.pm [1, 0, 2] (by kernel_rfl) (by kernel_rfl)) (fun _ => A.pm [1, 0, 2] (by kernel_rfl) (by kernel_rfl)) (fun w _ => by kernel_rfl) (by kernel_rfl) (fun _ hd28 => ?_)
              refine E.To.code ?_
              refine E.C.seq ?_
              refine E.C.region ?_
              refine E.G.op (.pointer (some ⟨g1, 1, none⟩)) (fun w => by kernel_rfl) (by kernel_rfl) ?_
              refine E.G.val (.pointer (some ⟨r, 0, none⟩)) (by kernel_rfl) (fun w h => E.run_load h 0 rfl rfl (by kernel_rfl)) ?_
              refine E.G.op (.int .i64 (M.opp p)) (fun w => by kernel_rfl) (by kernel_rfl) ?_
              refine E.G.op (.int .i64 (M.opn p)) (fun w => by kernel_rfl) (by kernel_rfl) ?_
              refine A.G.call (I := Unit) (D := fun _ => True) (V := fun _ => .tuple #[]) (q := fun _ => [R.It r (V.prot (M.opp p) (M.opn p))]) [A.blk g1 ([.pointer (some ⟨m, 0, none⟩), .pointer (some ⟨r, 0, none⟩)]), M.It m (V.prot (M.opp p) (M.opn p)) ([])] (fun _ => [(g1, [.pointer (some ⟨m, 0, none⟩), .pointer (some ⟨r, 0, none⟩)])]) (fun _ => [M.It m (V.prot (M.opp p) (M.opn p)) ([]), R.It r (V.prot (M.opp p) (M.opn p))]) (B_Protect (M.opp p) (M.opn p) (r := r) (V := V)) (by kernel_rfl) (A.pm [2, 0, 1] (by kernel_rfl) (by kernel_rfl)) (fun _ => A.pm [1, 2, 0] (by kernel_rfl) (by kernel_rfl)) (fun w _ => by kernel_rfl) (by kernel_rfl) (fun _ hd29 => ?_)
              refine E.To.code ?_
              refine E.C.weak [(2, .pointer (some ⟨g1, 0, none⟩)), (4, .bool false), (8, .int .i64 (M.opp p))] [(g1, [.pointer (some ⟨m, 0, none⟩), .pointer (some ⟨r, 0, none⟩)])] ⟨by kernel_rfl, by kernel_rfl⟩ (List.Sublist.refl _) ?_
              refine E.C.seq ?_
              refine E.C.quiet (by kernel_rfl) (by kernel_rfl) ?_
              refine E.W.op (.pointer (some ⟨g1, 0, none⟩)) (fun w => by kernel_rfl) (by kernel_rfl) ?_
              refine E.W.val (.pointer (some ⟨m, 0, none⟩)) (by kernel_rfl) (fun w h => E.run_load h 0 rfl rfl (by kernel_rfl)) ?_
              refine E.W.op (.int .i64 (M.opp p)) (fun w => by kernel_rfl) (by kernel_rfl) ?_
              refine E.W.call (.int .i64 ((V.prot (M.opp p) (M.opn p)).rt (M.opp p))) (fun w h => A.call_rd [A.blk g1 ([.pointer (some ⟨m, 0, none⟩), .pointer (some ⟨r, 0, none⟩)]), R.It r (V.prot (M.opp p) (M.opn p))] (A_Rights (M.opp p) (m := m) (V := (V.prot (M.opp p) (M.opn p))) (xs := [])) h (by kernel_rfl) (A.pm [1, 0, 2] (by kernel_rfl) (by kernel_rfl))) (fun w _ => by kernel_rfl) (by kernel_rfl) ?_
              refine E.W.op (.pointer (some ⟨g1, 1, none⟩)) (fun w => by kernel_rfl) (by kernel_rfl) ?_
              refine E.W.val (.pointer (some ⟨r, 0, none⟩)) (by kernel_rfl) (fun w h => E.run_load h 0 rfl rfl (by kernel_rfl)) ?_
              refine E.W.op (.int .i64 (M.opp p)) (fun w => by kernel_rfl) (by kernel_rfl) ?_
              refine E.W.call (.int .i64 ((V.prot (M.opp p) (M.opn p)).rt (M.opp p))) (fun w h => A.call_rd [A.blk g1 ([.pointer (some ⟨m, 0, none⟩), .pointer (some ⟨r, 0, none⟩)]), M.It m (V.prot (M.opp p) (M.opn p)) ([])] (B_RightsOf (M.opp p) (r := r) (V := (V.prot (M.opp p) (M.opn p)))) h (by kernel_rfl) (A.pm [2, 0, 1] (by kernel_rfl) (by kernel_rfl))) (fun w _ => by kernel_rfl) (by kernel_rfl) ?_
              refine E.W.val (.bool true) (by kernel_rfl) (fun w h => E.run_as (a := .bool (((V.prot (M.opp p) (M.opn p)).rt (M.opp p)) == ((V.prot (M.opp p) (M.opn p)).rt (M.opp p)))) (by kernel_rfl) (congrArg Value.bool (beq_self_eq_true _))) ?_
              refine E.W.op (.bool true) (fun w => by kernel_rfl) (by kernel_rfl) ?_
              refine E.W.done (E.To.code ?_)
              refine E.C.weak [(4, .bool true)] [] ⟨by kernel_rfl, by kernel_rfl⟩ (List.nil_sublist _) ?_
              refine E.C.ret (E.P.rb (E.P.rt (E.To.body (fn := Try.f46) [.bool true] ?_ ?_)))
              · exact ⟨⟨by kernel_rfl, by kernel_rfl⟩, trivial⟩
              · intro w h
                have e : M.V.op V p = (V.prot (M.opp p) (M.opn p)) := by unfold M.V.op; rw [hc7, cond_false, hc13, cond_false, hc17, cond_false, hc19, cond_false, hc22, cond_false, hc25, cond_false]
                rw [e]
                exact ⟨(), trivial, rfl, A.done (q := [M.It m (V.prot (M.opp p) (M.opn p)) ([]), R.It r (V.prot (M.opp p) (M.opn p))]) (r := []) h (by kernel_rfl) (A.pm [0, 1] (by kernel_rfl) (by kernel_rfl))⟩
end Go.Proofs.Ytdjjjikokfadiaa

/- Walks: play of the laws of mem, printed by wip/eng. No condition but what is named. -/
namespace Go.Proofs.Ytdjjjikokfadiaa
set_option linter.unusedVariables false
set_option linter.unusedSimpArgs false
open Go.RowKit
/-- The cells of a slice of operations. -/
def M.opF (ad : Addr) (n : Nat) (q : Nat → M.Op) : Addr → Value → Prop := fun a v => ∃ i j, i < n ∧ a = (ad.add (i * 6)).add j ∧ (q i).cells[j]? = some v
def M.V.plays (V : M.V) (q : Nat → M.Op) : Nat → M.V
  | 0 => V
  | k + 1 => (M.V.plays V q k).op (q k)
theorem A.run_loadA {P : Program} (w : World) (ad : Addr) : ∀ (xs : List Value) (i : Nat) (acc : Array Value), (∀ k v, xs[k]? = some v → w.cell? (ad.add (i + k)) = some v) →
    (loadCellsFrom ad i xs.length acc).run P w = .ok (acc ++ xs.toArray) w
  | [], i, acc, _ => by simp [loadCellsFrom, pure, Sem.run]
  | x :: xs, i, acc, h => by
    have h0 : w.cell? (ad.add i) = some x := h 0 x rfl
    have ih := A.run_loadA (P := P) w ad xs (i + 1) (acc.push x) (fun k v hk => by have := h (k + 1) v (by simpa using hk); rwa [show i + 1 + k = i + (k + 1) by omega])
    show (Sem.bind (Go.load (ad.add i)) fun v => loadCellsFrom ad (i + 1) xs.length (acc.push v)).run P w = _
    simp only [Go.load, Sem.bind, Sem.run, h0]
    rw [ih]
    simp
theorem A.loadOp {n : Nat} {fr : E.Fr} {d : Option Nat} {T : TypeId} {pos : String} {af : Array Edge} {gd : Option (Nat × Bool)} {its : List A.It} {ad : Addr} {q : Nat → M.Op} {w : World} {k i : Nat} {x : Operand} (h : A.Y its w) (hk : its[k]? = some (A.facts (M.opF ad n q))) (hx : E.ev fr x = .pointer (some (ad.add (i * 6)))) (hi : i < n) :
    (execOp (E.ev fr) ⟨d, .load 85 x, T, pos, af, gd⟩).run Try.prog w = .ok (.value (q i).val) w := by
  have hl := A.run_loadA (P := Try.prog) w (ad.add (i * 6)) (q i).cells 0 #[] (fun j v hj => by
    rw [Nat.zero_add]
    exact h.fact hk ⟨i, j, hi, rfl, hj⟩)
  obtain ⟨fs, hu⟩ : ∃ fs, Try.prog.underlying 85 = some (.struct fs) := ⟨_, Try.underlying85⟩
  have ha : (isAgg 85).run Try.prog w = .ok true w := by simp [isAgg, underlying, hu]
  have hs : (sizeOf 85).run Try.prog w = .ok 6 w := by
    have hi : (Try.prog.info? 85).map (·.size) = some 6 := by kernel_rfl
    cases hi0 : Try.prog.info? 85 with
    | none => rw [hi0] at hi; cases hi
    | some i => rw [hi0] at hi; simp [sizeOf, typeInfo, hi0]; simpa using hi
  have hl : (loadCellsFrom (ad.add (i * 6)) 0 6 #[]).run Try.prog w = .ok (#[] ++ (q i).cells.toArray) w := hl
  show (do let r ← Instr.loadAt 85 (E.ev fr x); pure (Next.value r) : Sem Next).run Try.prog w = _
  rw [hx]
  simp [Instr.loadAt, Instr.sureAddr, loadVar, ha, hs, loadCells, hl]
  rfl
theorem A.idxF {fr : E.Fr} {d : Option Nat} {T : TypeId} {pos : String} {af : Array Edge} {gd : Option (Nat × Bool)} {P : Program} {t e : TypeId} {x ix : Operand} (ad : Addr) (ao : Option Addr) (len cap esz : Nat) (k : IntKind) (i : Nat) (hao : 0 < len → ao = some ad) (hu : P.underlying t = some (.slice e)) (hs : (P.info? e).map (·.size) = some esz) (hx : E.ev fr x = .slice ao len cap) (hi : E.ev fr ix = .int k ((i : Nat) : Int))
    (h1 : i < len) (w : World) : (execOp (E.ev fr) ⟨d, .indexAddr t x ix, T, pos, af, gd⟩).run P w = .ok (.value (.pointer (some (ad.add (i * esz))))) w := by
  obtain rfl := hao (by omega)
  cases hi0 : P.info? e with
  | none => rw [hi0] at hs; cases hs
  | some ie =>
    rw [hi0] at hs
    simp only [Option.map_some, Option.some.injEq] at hs
    subst hs
    show (do let r ← Instr.indexAt t (E.ev fr x) (E.ev fr ix); pure (Next.value r) : Sem Next).run P w = _
    rw [hx, hi]
    simp [Instr.indexAt, asIntOf, underlying, hu, Instr.sureAddr, sizeOf, typeInfo, hi0, h1]
theorem M.cnt_end {n k : Nat} (h : k ≤ n ∧ k ≤ 40) (h2 : ((decide (((k : Nat) : Int) < ((n : Nat) : Int))) && (decide (((k : Nat) : Int) < 40))) = false) : k = Nat.min n 40 := by
  have e : Nat.min n 40 = if n ≤ 40 then n else 40 := rfl
  rw [e]
  simp only [Bool.and_eq_false_iff, decide_eq_false_iff_not] at h2
  split <;> omega
theorem Play {m r : Nat} {V : M.V} {ao : Option Addr} {ad : Addr} {n cap : Nat} {q : Nat → M.Op} (hao : 0 < n → ao = some ad) : A.Tr Try.prog 26 #[.agg #[.pointer (some ⟨m, 0, none⟩), .pointer (some ⟨r, 0, none⟩)], .slice ao n cap] [A.facts (M.opF ad n q), M.It m V [], R.It r V] (I := Unit) (fun _ => True) (fun _ => .bool true) (fun _ => [A.facts (M.opF ad n q), M.It m (V.plays q (Nat.min n 40)) [], R.It r (V.plays q (Nat.min n 40))]) := by
  intro w oo aa hh
  refine E.enter (n := 23) (S := oo) Try.func26 rfl rfl (by kernel_rfl) (A.start (L := []) hh) ?_
  refine E.C.seq ?_
  refine E.C.region ?_
  refine E.G.new (fun g => .pointer (some ⟨g, 0, none⟩)) [.pointer (some ⟨m, 0, none⟩), .pointer (some ⟨r, 0, none⟩)] 44 (fun w => by kernel_rfl) (by kernel_rfl) (fun g1 => ?_)
  refine E.G.op (.bool false) (fun w => by kernel_rfl) (by kernel_rfl) ?_
  refine E.To.code ?_
  refine E.C.seq ?_
  refine E.C.seq ?_
  refine E.C.region ?_
  refine E.G.op (.int .i64 0) (fun w => by kernel_rfl) (by kernel_rfl) ?_
  refine E.To.code ?_
  refine E.C.block ?_
  refine E.C.loop (I := Nat) (fun k => 40 - k) (fun k => k ≤ n ∧ k ≤ 40) (fun k => [(1, .slice ao n cap), (2, .pointer (some ⟨g1, 0, none⟩)), (4, .bool false), (5, .int .i64 ((k : Nat) : Int))]) (fun k => A.X w oo aa [A.facts (M.opF ad n q), M.It m (M.V.plays V q k) ([]), R.It r (M.V.plays V q k)]) (fun k => [(g1, [.pointer (some ⟨m, 0, none⟩), .pointer (some ⟨r, 0, none⟩)])]) 0 (⟨Nat.zero_le _, Nat.zero_le _⟩) ⟨by kernel_rfl, by kernel_rfl⟩ (List.Sublist.refl _) (fun _ h => h) (fun k hk1 => ?_)
  refine E.C.seq ?_
  refine E.C.seq ?_
  refine E.C.region ?_
  refine E.G.op (.int .i64 ((k : Nat) : Int)) (fun w => by kernel_rfl) (by kernel_rfl) ?_
  refine E.G.op (.slice ao n cap) (fun w => by kernel_rfl) (by kernel_rfl) ?_
  refine E.G.op (.int .i64 ((n : Nat) : Int)) (fun w => by kernel_rfl) (by kernel_rfl) ?_
  refine E.G.op (.bool (decide (((k : Nat) : Int) < ((n : Nat) : Int)))) (fun w => by kernel_rfl) (by kernel_rfl) ?_
  refine E.G.op (.bool (decide (((k : Nat) : Int) < ((n : Nat) : Int)))) (fun w => by kernel_rfl) (by kernel_rfl) ?_
  refine E.G.cut 3 [(1, .slice ao n cap), (2, .pointer (some ⟨g1, 0, none⟩)), (4, .bool false), (5, .int .i64 ((k : Nat) : Int)), (6, .int .i64 ((k : Nat) : Int)), (7, .slice ao n cap), (8, .int .i64 ((n : Nat) : Int)), (9, .bool (decide (((k : Nat) : Int) < ((n : Nat) : Int)))), (10, .bool (decide (((k : Nat) : Int) < ((n : Nat) : Int)))), (13, .bool ((decide (((k : Nat) : Int) < ((n : Nat) : Int))) && (decide (((k : Nat) : Int) < 40))))] (A.X w oo aa [A.facts (M.opF ad n q), M.It m (M.V.plays V q k) ([]), R.It r (M.V.plays V q k)]) [(g1, [.pointer (some ⟨m, 0, none⟩), .pointer (some ⟨r, 0, none⟩)])] ?_ ?_
  · generalize hc2 : (decide (((k : Nat) : Int) < ((n : Nat) : Int))) = b3
    cases b3
    · skip
      refine E.G.skip (by kernel_rfl) (by kernel_rfl) ?_
      refine E.G.skip (by kernel_rfl) (by kernel_rfl) ?_
      refine E.G.op (.bool false) (fun w => by kernel_rfl) (by kernel_rfl) ?_
      exact E.G.end_pst ⟨by kernel_rfl, by kernel_rfl⟩ (List.Sublist.refl _) (fun _ h => h)
    · skip
      refine E.G.op (.int .i64 ((k : Nat) : Int)) (fun w => by kernel_rfl) (by kernel_rfl) ?_
      refine E.G.op (.bool (decide (((k : Nat) : Int) < 40))) (fun w => by kernel_rfl) (by kernel_rfl) ?_
      refine E.G.op (.bool (decide (((k : Nat) : Int) < 40))) (fun w => by kernel_rfl) (by kernel_rfl) ?_
      exact E.G.end_pst ⟨by kernel_rfl, by kernel_rfl⟩ (List.Sublist.refl _) (fun _ h => h)
  refine E.To.code ?_
  refine E.C.cond ((decide (((k : Nat) : Int) < ((n : Nat) : Int))) && (decide (((k : Nat) : Int) < 40))) (by kernel_rfl) (by kernel_rfl) (fun hc4 => ?_) (fun hc4 => ?_)
  · skip
    refine E.C.skip (E.To.code ?_)
    refine E.C.seq ?_
    refine E.C.block ?_
    refine E.C.seq ?_
    refine E.C.held (A.Y [A.blk g1 ([.pointer (some ⟨m, 0, none⟩), .pointer (some ⟨r, 0, none⟩)]), A.facts (M.opF ad n q)]) (by kernel_rfl) ?_
    refine E.H.take 0 (.agg #[.pointer (some ⟨m, 0, none⟩), .pointer (some ⟨r, 0, none⟩)]) rfl (by kernel_rfl) (by kernel_rfl) (by kernel_rfl) (fun _ _ _ h => h) (fun w h => A.hpY (p := [A.blk g1 ([.pointer (some ⟨m, 0, none⟩), .pointer (some ⟨r, 0, none⟩)]), A.facts (M.opF ad n q)]) (r := [M.It m (M.V.plays V q k) ([]), R.It r (M.V.plays V q k)]) h (by kernel_rfl) (A.pm [0, 1, 2, 3] (by kernel_rfl) (by kernel_rfl))) (.inl ⟨by kernel_rfl, by kernel_rfl, fun w h => A.Y.bld h (k := 0) (j := 0) rfl (by kernel_rfl) (by kernel_rfl)⟩) (by kernel_rfl) ?_
    refine E.H.take 1 (.slice ao n cap) rfl (by kernel_rfl) (by kernel_rfl) (by kernel_rfl) (fun _ _ _ h => h) (fun w h => A.hpY (p := [A.blk g1 ([.pointer (some ⟨m, 0, none⟩), .pointer (some ⟨r, 0, none⟩)]), A.facts (M.opF ad n q)]) (r := [M.It m (M.V.plays V q k) ([]), R.It r (M.V.plays V q k)]) h (by kernel_rfl) (A.pm [0, 1, 2, 3] (by kernel_rfl) (by kernel_rfl))) (.inl ⟨by kernel_rfl, by kernel_rfl, fun w h => by kernel_rfl⟩) (by kernel_rfl) ?_
    refine E.H.take 2 (.int .i64 ((k : Nat) : Int)) rfl (by kernel_rfl) (by kernel_rfl) (by kernel_rfl) (fun _ _ _ h => h) (fun w h => A.hpY (p := [A.blk g1 ([.pointer (some ⟨m, 0, none⟩), .pointer (some ⟨r, 0, none⟩)]), A.facts (M.opF ad n q)]) (r := [M.It m (M.V.plays V q k) ([]), R.It r (M.V.plays V q k)]) h (by kernel_rfl) (A.pm [0, 1, 2, 3] (by kernel_rfl) (by kernel_rfl))) (.inl ⟨by kernel_rfl, by kernel_rfl, fun w h => by kernel_rfl⟩) (by kernel_rfl) ?_
    refine E.H.take 3 (.pointer (some (ad.add (k * 6)))) rfl (by kernel_rfl) (by kernel_rfl) (by kernel_rfl) (fun _ _ _ h => h) (fun w h => A.hpY (p := [A.blk g1 ([.pointer (some ⟨m, 0, none⟩), .pointer (some ⟨r, 0, none⟩)]), A.facts (M.opF ad n q)]) (r := [M.It m (M.V.plays V q k) ([]), R.It r (M.V.plays V q k)]) h (by kernel_rfl) (A.pm [0, 1, 2, 3] (by kernel_rfl) (by kernel_rfl))) (.inl ⟨by kernel_rfl, by kernel_rfl, fun w h => A.idxF (e := 85) ad ao n cap 6 .i64 k hao (by kernel_rfl) (by kernel_rfl) (by kernel_rfl) (by kernel_rfl) (by (first | assumption | ((try simp only [Bool.or_eq_false_iff, Bool.or_eq_true, Bool.and_eq_true, Bool.and_eq_false_iff, Bool.not_eq_eq_eq_not, Bool.not_true, Bool.not_false, decide_eq_true_eq, decide_eq_false_iff_not, ge_iff_le, gt_iff_lt] at *); omega))) w⟩) (by kernel_rfl) ?_
    refine E.H.take 4 ((q k).val) rfl (by kernel_rfl) (by kernel_rfl) (by kernel_rfl) (fun _ _ _ h => h) (fun w h => A.hpY (p := [A.blk g1 ([.pointer (some ⟨m, 0, none⟩), .pointer (some ⟨r, 0, none⟩)]), A.facts (M.opF ad n q)]) (r := [M.It m (M.V.plays V q k) ([]), R.It r (M.V.plays V q k)]) h (by kernel_rfl) (A.pm [0, 1, 2, 3] (by kernel_rfl) (by kernel_rfl))) (.inl ⟨by kernel_rfl, by kernel_rfl, fun w h => A.loadOp (n := n) (q := q) h (k := 1) rfl (by kernel_rfl) (by (first | assumption | ((try simp only [Bool.or_eq_false_iff, Bool.or_eq_true, Bool.and_eq_true, Bool.and_eq_false_iff, Bool.not_eq_eq_eq_not, Bool.not_true, Bool.not_false, decide_eq_true_eq, decide_eq_false_iff_not, ge_iff_le, gt_iff_lt] at *); omega)))⟩) (by kernel_rfl) ?_
    refine E.H.all [5] (by kernel_rfl) (by simp) (List.forall_mem_cons.2 ⟨⟨_, rfl, ?_⟩, fun _ h => (List.not_mem_nil h).elim⟩)
    · skip
      refine A.G.call (I := Unit) (D := fun _ => True) (V := fun _ => .bool true) (q := fun _ => [M.It m (M.V.op (M.V.plays V q k) (q k)) ([]), R.It r (M.V.op (M.V.plays V q k) (q k))]) [A.blk g1 ([.pointer (some ⟨m, 0, none⟩), .pointer (some ⟨r, 0, none⟩)]), A.facts (M.opF ad n q)] (fun _ => [(g1, [.pointer (some ⟨m, 0, none⟩), .pointer (some ⟨r, 0, none⟩)])]) (fun _ => [A.facts (M.opF ad n q), M.It m (M.V.op (M.V.plays V q k) (q k)) ([]), R.It r (M.V.op (M.V.plays V q k) (q k))]) (Do (m := m) (r := r) (V := (M.V.plays V q k)) (q k)) (by kernel_rfl) (A.pm [2, 3, 0, 1] (by kernel_rfl) (by kernel_rfl)) (fun _ => A.pm [2, 3, 0, 1] (by kernel_rfl) (by kernel_rfl)) (fun w _ => by kernel_rfl) (by kernel_rfl) (fun _ hd5 => ?_)
      refine E.H.back (fun w h => A.hpY (p := [A.blk g1 ([.pointer (some ⟨m, 0, none⟩), .pointer (some ⟨r, 0, none⟩)]), A.facts (M.opF ad n q)]) (r := [M.It m (M.V.op (M.V.plays V q k) (q k)) ([]), R.It r (M.V.op (M.V.plays V q k) (q k))]) h (by kernel_rfl) (A.pm [0, 1, 2, 3] (by kernel_rfl) (by kernel_rfl))) ?_
      refine E.H.take 6 (.bool false) rfl (by kernel_rfl) (by kernel_rfl) (by kernel_rfl) (fun _ _ _ h => h) (fun w h => A.hpY (p := [A.blk g1 ([.pointer (some ⟨m, 0, none⟩), .pointer (some ⟨r, 0, none⟩)]), A.facts (M.opF ad n q)]) (r := [M.It m (M.V.op (M.V.plays V q k) (q k)) ([]), R.It r (M.V.op (M.V.plays V q k) (q k))]) h (by kernel_rfl) (A.pm [0, 1, 2, 3] (by kernel_rfl) (by kernel_rfl))) (.inl ⟨by kernel_rfl, by kernel_rfl, fun w h => by kernel_rfl⟩) (by kernel_rfl) ?_
      refine E.H.done (by kernel_rfl) ?_
      refine E.To.code ?_
      refine E.C.condF (by kernel_rfl) (by kernel_rfl) ?_
      refine E.C.skip (E.P.nb (E.To.code ?_))
      refine E.C.region ?_
      refine E.G.op (.int .i64 ((k : Nat) : Int)) (fun w => by kernel_rfl) (by kernel_rfl) ?_
      refine E.G.val (.int .i64 ((k + 1 : Nat) : Int)) (by kernel_rfl) (fun w h => E.run_as (a := .int .i64 (IntKind.wrap .i64 (((k : Nat) : Int) + 1))) (by kernel_rfl) (congrArg (Value.int .i64) (by exact Nz.add64 (x := k) (y := 1) (by (first | assumption | ((try simp only [Bool.or_eq_false_iff, Bool.or_eq_true, Bool.and_eq_true, Bool.and_eq_false_iff, Bool.not_eq_eq_eq_not, Bool.not_true, Bool.not_false, decide_eq_true_eq, decide_eq_false_iff_not, ge_iff_le, gt_iff_lt] at *); omega)))))) ?_
      refine E.G.op (.int .i64 ((k + 1 : Nat) : Int)) (fun w => by kernel_rfl) (by kernel_rfl) ?_
      exact E.To.round (k + 1) (by (first | assumption | ((try simp only [Bool.or_eq_false_iff, Bool.or_eq_true, Bool.and_eq_true, Bool.and_eq_false_iff, Bool.not_eq_eq_eq_not, Bool.not_true, Bool.not_false, decide_eq_true_eq, decide_eq_false_iff_not, ge_iff_le, gt_iff_lt] at *); omega))) (by (first | assumption | ((try simp only [Bool.or_eq_false_iff, Bool.or_eq_true, Bool.and_eq_true, Bool.and_eq_false_iff, Bool.not_eq_eq_eq_not, Bool.not_true, Bool.not_false, decide_eq_true_eq, decide_eq_false_iff_not, ge_iff_le, gt_iff_lt] at *); omega))) ⟨by kernel_rfl, by kernel_rfl⟩ (List.Sublist.refl _) (fun _ h => h)
  · skip
    refine E.C.exit (E.P.et (E.P.et (E.P.eh (E.To.code ?_))))
    refine E.C.weak [(4, .bool false)] [] ⟨by kernel_rfl, by kernel_rfl⟩ (List.nil_sublist _) ?_
    refine E.C.seq ?_
    refine E.C.region ?_
    refine E.G.op (.bool true) (fun w => by kernel_rfl) (by kernel_rfl) ?_
    refine E.To.code ?_
    refine E.C.ret (E.To.body (fn := Try.f26) [.bool true] ?_ ?_)
    · exact ⟨⟨by kernel_rfl, by kernel_rfl⟩, trivial⟩
    · intro w h
      have e := M.cnt_end hk1 hc4
      rw [← e]
      exact ⟨(), trivial, rfl, A.done (q := [A.facts (M.opF ad n q), M.It m (M.V.plays V q k) ([]), R.It r (M.V.plays V q k)]) (r := []) h (by kernel_rfl) (A.pm [0, 1, 2] (by kernel_rfl) (by kernel_rfl))⟩
end Go.Proofs.Ytdjjjikokfadiaa

/- Walks: begin of the laws of mem, printed by wip/eng. No condition but what is named. -/
namespace Go.Proofs.Ytdjjjikokfadiaa
set_option linter.unusedVariables false
set_option linter.unusedSimpArgs false
open Go.RowKit
/-- The rights of the first k pages set. -/
def M.V.beg (V : M.V) (q : Nat → Int) : Nat → M.V
  | 0 => V
  | k + 1 => (M.V.beg V q k).prot ((k : Nat) : Int) (IntKind.wrap .i64 (q k))
def M.bc (n : Nat) (pg : Int) : Nat := Nat.min n pg.toNat
theorem M.bc_end {n k : Nat} {pg : Int} (h : k ≤ n ∧ (k = 0 ∨ ((k : Nat) : Int) ≤ pg)) (h2 : ((decide (((k : Nat) : Int) < ((n : Nat) : Int))) && (decide (((k : Nat) : Int) < pg))) = false) : k = M.bc n pg := by
  have e : M.bc n pg = if n ≤ pg.toNat then n else pg.toNat := rfl
  rw [e]
  simp only [Bool.and_eq_false_iff, decide_eq_false_iff_not] at h2
  split <;> omega
theorem A.loadF {P : Program} {fr : E.Fr} {d : Option Nat} {T t : TypeId} {pos : String} {af : Array Edge} {gd : Option (Nat × Bool)} {its : List A.It} {it : A.It} {ad : Addr} {q : Nat → Int} {n : Nat} {w : World} {k i : Nat} {kd : IntKind} {x : Operand} (h : A.Y its w) (hk : its[k]? = some it) (hit : ∀ w o a, it.t w o a → ∀ i, i < n → w.cell? (ad.add i) = some (.int kd (q i))) (hu : P.underlying t = some (.int kd)) (hx : E.ev fr x = .pointer (some (ad.add (i * 1)))) (hi : i < n) :
    (execOp (E.ev fr) ⟨d, .load t x, T, pos, af, gd⟩).run P w = .ok (.value (.int kd (q i))) w := by
  obtain ⟨o1, a1, hv⟩ := h.get hk
  have hc := hit w o1 a1 hv i hi
  have ht : (isAgg t).run P w = .ok false w := by simp [isAgg, underlying, hu]
  show (do let r ← Instr.loadAt t (E.ev fr x); pure (Next.value r) : Sem Next).run P w = _
  rw [hx, Nat.mul_one]
  simp [Instr.loadAt, Instr.sureAddr, loadVar, ht, Go.load, Sem.run, hc]
theorem M.beg_n (V : M.V) (q : Nat → Int) : ∀ k, (V.beg q k).n = V.n
  | 0 => rfl
  | k + 1 => by
    show ((V.beg q k).prot _ _).n = _
    rw [← M.beg_n V q k]
    unfold M.V.prot; split <;> rfl
theorem Begin {it : A.It} {ao : Option Addr} {ad : Addr} {n cap : Nat} {q : Nat → Int} (pg : Int) (coh : Bool) (hn : n < 9223372036854775807 ∨ pg < 9223372036854775807) (hao : 0 < n → ao = some ad) (hit : ∀ w o a, it.t w o a → ∀ i, i < n → w.cell? (ad.add i) = some (.int .u8 (q i))) : A.Tr Try.prog 25 #[.int .i64 pg, .bool coh, .slice ao n cap] [it] (I := Nat × Nat) (fun _ => True) (fun i => .tuple #[.agg #[.pointer (some ⟨i.1, 0, none⟩), .pointer (some ⟨i.2, 0, none⟩)], .bool true]) (fun i => [it, M.It i.1 ((M.V.new (M.np pg) coh).beg q (M.bc n pg)) [], R.It i.2 ((M.V.new (M.np pg) coh).beg q (M.bc n pg))]) := by
  intro w oo aa hh
  refine E.enter (n := 59) (S := oo) Try.func25 rfl rfl (by kernel_rfl) (A.start (L := []) hh) ?_
  refine E.C.seq ?_
  refine E.C.region ?_
  refine E.G.new (fun g => .pointer (some ⟨g, 0, none⟩)) [.pointer none, .pointer none] 44 (fun w => by kernel_rfl) (by kernel_rfl) (fun g1 => ?_)
  refine E.G.op (.bool false) (fun w => by kernel_rfl) (by kernel_rfl) ?_
  refine E.To.code ?_
  refine E.C.seq ?_
  refine E.C.region ?_
  refine E.G.op (.int .i64 pg) (fun w => by kernel_rfl) (by kernel_rfl) ?_
  refine E.G.op (.bool coh) (fun w => by kernel_rfl) (by kernel_rfl) ?_
  refine A.G.call (I := Nat) (D := fun m2 => True) (V := fun m2 => .pointer (some ⟨m2, 0, none⟩)) (q := fun m2 => [M.It m2 (M.V.new (M.np pg) coh) ([])]) [A.blk g1 ([.pointer none, .pointer none]), it] (fun m2 => [(g1, [.pointer none, .pointer none])]) (fun m2 => [M.It m2 (M.V.new (M.np pg) coh) ([]), it]) (A_New pg coh) (by kernel_rfl) (A.pm [0, 1] (by kernel_rfl) (by kernel_rfl)) (fun m2 => A.pm [1, 0, 2] (by kernel_rfl) (by kernel_rfl)) (fun w _ => by kernel_rfl) (by kernel_rfl) (fun m2 hd3 => ?_)
  refine E.G.op (.int .i64 pg) (fun w => by kernel_rfl) (by kernel_rfl) ?_
  refine E.G.op (.bool coh) (fun w => by kernel_rfl) (by kernel_rfl) ?_
  refine A.G.call (I := Nat) (D := fun r4 => True) (V := fun r4 => .pointer (some ⟨r4, 0, none⟩)) (q := fun r4 => [R.It r4 (M.V.new (M.np pg) coh)]) [A.blk g1 ([.pointer none, .pointer none]), M.It m2 (M.V.new (M.np pg) coh) ([]), it] (fun r4 => [(g1, [.pointer none, .pointer none])]) (fun r4 => [R.It r4 (M.V.new (M.np pg) coh), M.It m2 (M.V.new (M.np pg) coh) ([]), it]) (R_New pg coh) (by kernel_rfl) (A.pm [0, 1, 2] (by kernel_rfl) (by kernel_rfl)) (fun r4 => A.pm [1, 0, 2, 3] (by kernel_rfl) (by kernel_rfl)) (fun w _ => by kernel_rfl) (by kernel_rfl) (fun r4 hd5 => ?_)
  refine E.G.val (.agg #[.pointer (some ⟨m2, 0, none⟩), .pointer (some ⟨r4, 0, none⟩)]) (by kernel_rfl) (fun w h => E.run_build #[.pointer (some ⟨m2, 0, none⟩), .pointer (some ⟨r4, 0, none⟩)] (by kernel_rfl) w) ?_
  refine E.G.new (fun g => .pointer (some ⟨g, 0, none⟩)) [.pointer none, .pointer none] 44 (fun w => by kernel_rfl) (by kernel_rfl) (fun g6 => ?_)
  refine E.G.store 0 [.pointer (some ⟨m2, 0, none⟩), .pointer (some ⟨r4, 0, none⟩)] rfl rfl (by kernel_rfl) (by kernel_rfl) ?_
  refine E.To.code ?_
  refine E.C.weak [(0, .int .i64 pg), (2, .slice ao n cap), (6, .pointer (some ⟨g1, 0, none⟩)), (7, .bool false), (8, .pointer (some ⟨g6, 0, none⟩))] [(g6, [.pointer (some ⟨m2, 0, none⟩), .pointer (some ⟨r4, 0, none⟩)]), (g1, [.pointer none, .pointer none])] ⟨by kernel_rfl, by kernel_rfl⟩ (List.Sublist.refl _) ?_
  refine E.C.seq ?_
  refine E.C.seq ?_
  refine E.C.region ?_
  refine E.G.op (.int .i64 0) (fun w => by kernel_rfl) (by kernel_rfl) ?_
  refine E.To.code ?_
  refine E.C.block ?_
  refine A.C.shift [(g6, [.pointer (some ⟨m2, 0, none⟩), .pointer (some ⟨r4, 0, none⟩)]), (g1, [.pointer none, .pointer none])] [it, M.It m2 (M.V.new (M.np pg) coh) ([]), R.It r4 (M.V.new (M.np pg) coh)] (by kernel_rfl) (A.pm [0, 1, 4, 3, 2] (by kernel_rfl) (by kernel_rfl)) ?_
  refine E.C.loop (I := Nat) (fun k => n - k) (fun k => k ≤ n ∧ (k = 0 ∨ ((k : Nat) : Int) ≤ pg)) (fun k => [(0, .int .i64 pg), (2, .slice ao n cap), (6, .pointer (some ⟨g1, 0, none⟩)), (7, .bool false), (8, .pointer (some ⟨g6, 0, none⟩)), (9, .int .i64 ((k : Nat) : Int))]) (fun k => A.X w oo aa [it, M.It m2 (M.V.beg (M.V.new (M.np pg) coh) q k) ([]), R.It r4 (M.V.beg (M.V.new (M.np pg) coh) q k)]) (fun k => [(g6, [.pointer (some ⟨m2, 0, none⟩), .pointer (some ⟨r4, 0, none⟩)]), (g1, [.pointer none, .pointer none])]) 0 (⟨Nat.zero_le _, .inl rfl⟩) ⟨by kernel_rfl, by kernel_rfl⟩ (List.Sublist.refl _) (fun _ h => h) (fun k hk1 => ?_)
  refine E.C.seq ?_
  refine E.C.seq ?_
  refine E.C.region ?_
  refine E.G.op (.int .i64 ((k : Nat) : Int)) (fun w => by kernel_rfl) (by kernel_rfl) ?_
  refine E.G.op (.slice ao n cap) (fun w => by kernel_rfl) (by kernel_rfl) ?_
  refine E.G.op (.int .i64 ((n : Nat) : Int)) (fun w => by kernel_rfl) (by kernel_rfl) ?_
  refine E.G.op (.bool (decide (((k : Nat) : Int) < ((n : Nat) : Int)))) (fun w => by kernel_rfl) (by kernel_rfl) ?_
  refine E.G.op (.bool (decide (((k : Nat) : Int) < ((n : Nat) : Int)))) (fun w => by kernel_rfl) (by kernel_rfl) ?_
  refine E.G.cut 4 [(0, .int .i64 pg), (2, .slice ao n cap), (6, .pointer (some ⟨g1, 0, none⟩)), (7, .bool false), (8, .pointer (some ⟨g6, 0, none⟩)), (9, .int .i64 ((k : Nat) : Int)), (17, .int .i64 ((k : Nat) : Int)), (18, .slice ao n cap), (19, .int .i64 ((n : Nat) : Int)), (20, .bool (decide (((k : Nat) : Int) < ((n : Nat) : Int)))), (21, .bool (decide (((k : Nat) : Int) < ((n : Nat) : Int)))), (25, .bool ((decide (((k : Nat) : Int) < ((n : Nat) : Int))) && (decide (((k : Nat) : Int) < pg))))] (A.X w oo aa [it, M.It m2 (M.V.beg (M.V.new (M.np pg) coh) q k) ([]), R.It r4 (M.V.beg (M.V.new (M.np pg) coh) q k)]) [(g6, [.pointer (some ⟨m2, 0, none⟩), .pointer (some ⟨r4, 0, none⟩)]), (g1, [.pointer none, .pointer none])] ?_ ?_
  · generalize hc7 : (decide (((k : Nat) : Int) < ((n : Nat) : Int))) = b8
    cases b8
    · skip
      refine E.G.skip (by kernel_rfl) (by kernel_rfl) ?_
      refine E.G.skip (by kernel_rfl) (by kernel_rfl) ?_
      refine E.G.skip (by kernel_rfl) (by kernel_rfl) ?_
      refine E.G.op (.bool false) (fun w => by kernel_rfl) (by kernel_rfl) ?_
      exact E.G.end_pst ⟨by kernel_rfl, by kernel_rfl⟩ (List.Sublist.refl _) (fun _ h => h)
    · skip
      refine E.G.op (.int .i64 ((k : Nat) : Int)) (fun w => by kernel_rfl) (by kernel_rfl) ?_
      refine E.G.op (.int .i64 pg) (fun w => by kernel_rfl) (by kernel_rfl) ?_
      refine E.G.op (.bool (decide (((k : Nat) : Int) < pg))) (fun w => by kernel_rfl) (by kernel_rfl) ?_
      refine E.G.op (.bool (decide (((k : Nat) : Int) < pg))) (fun w => by kernel_rfl) (by kernel_rfl) ?_
      exact E.G.end_pst ⟨by kernel_rfl, by kernel_rfl⟩ (List.Sublist.refl _) (fun _ h => h)
  refine E.To.code ?_
  refine E.C.cond ((decide (((k : Nat) : Int) < ((n : Nat) : Int))) && (decide (((k : Nat) : Int) < pg))) (by kernel_rfl) (by kernel_rfl) (fun hc9 => ?_) (fun hc9 => ?_)
  · skip
    refine E.C.skip (E.To.code ?_)
    refine E.C.seq ?_
    refine E.C.block ?_
    refine E.C.seq ?_
    refine E.C.held (A.Y [A.blk g6 ([.pointer (some ⟨m2, 0, none⟩), .pointer (some ⟨r4, 0, none⟩)]), A.blk g1 ([.pointer none, .pointer none]), it]) (by kernel_rfl) ?_
    refine E.H.take 0 (.pointer (some ⟨g6, 0, none⟩)) rfl (by kernel_rfl) (by kernel_rfl) (by kernel_rfl) (fun _ _ _ h => h) (fun w h => A.hpY (p := [A.blk g6 ([.pointer (some ⟨m2, 0, none⟩), .pointer (some ⟨r4, 0, none⟩)]), A.blk g1 ([.pointer none, .pointer none]), it]) (r := [M.It m2 (M.V.beg (M.V.new (M.np pg) coh) q k) ([]), R.It r4 (M.V.beg (M.V.new (M.np pg) coh) q k)]) h (by kernel_rfl) (A.pm [0, 1, 2, 3, 4] (by kernel_rfl) (by kernel_rfl))) (.inl ⟨by kernel_rfl, by kernel_rfl, fun w h => by kernel_rfl⟩) (by kernel_rfl) ?_
    refine E.H.take 1 (.pointer (some ⟨m2, 0, none⟩)) rfl (by kernel_rfl) (by kernel_rfl) (by kernel_rfl) (fun _ _ _ h => h) (fun w h => A.hpY (p := [A.blk g6 ([.pointer (some ⟨m2, 0, none⟩), .pointer (some ⟨r4, 0, none⟩)]), A.blk g1 ([.pointer none, .pointer none]), it]) (r := [M.It m2 (M.V.beg (M.V.new (M.np pg) coh) q k) ([]), R.It r4 (M.V.beg (M.V.new (M.np pg) coh) q k)]) h (by kernel_rfl) (A.pm [0, 1, 2, 3, 4] (by kernel_rfl) (by kernel_rfl))) (.inl ⟨by kernel_rfl, by kernel_rfl, fun w h => A.Y.bld h (k := 0) (j := 0) rfl (by kernel_rfl) (by kernel_rfl)⟩) (by kernel_rfl) ?_
    refine E.H.take 2 (.int .i64 ((k : Nat) : Int)) rfl (by kernel_rfl) (by kernel_rfl) (by kernel_rfl) (fun _ _ _ h => h) (fun w h => A.hpY (p := [A.blk g6 ([.pointer (some ⟨m2, 0, none⟩), .pointer (some ⟨r4, 0, none⟩)]), A.blk g1 ([.pointer none, .pointer none]), it]) (r := [M.It m2 (M.V.beg (M.V.new (M.np pg) coh) q k) ([]), R.It r4 (M.V.beg (M.V.new (M.np pg) coh) q k)]) h (by kernel_rfl) (A.pm [0, 1, 2, 3, 4] (by kernel_rfl) (by kernel_rfl))) (.inl ⟨by kernel_rfl, by kernel_rfl, fun w h => by kernel_rfl⟩) (by kernel_rfl) ?_
    refine E.H.take 3 (.slice ao n cap) rfl (by kernel_rfl) (by kernel_rfl) (by kernel_rfl) (fun _ _ _ h => h) (fun w h => A.hpY (p := [A.blk g6 ([.pointer (some ⟨m2, 0, none⟩), .pointer (some ⟨r4, 0, none⟩)]), A.blk g1 ([.pointer none, .pointer none]), it]) (r := [M.It m2 (M.V.beg (M.V.new (M.np pg) coh) q k) ([]), R.It r4 (M.V.beg (M.V.new (M.np pg) coh) q k)]) h (by kernel_rfl) (A.pm [0, 1, 2, 3, 4] (by kernel_rfl) (by kernel_rfl))) (.inl ⟨by kernel_rfl, by kernel_rfl, fun w h => by kernel_rfl⟩) (by kernel_rfl) ?_
    refine E.H.take 4 (.int .i64 ((k : Nat) : Int)) rfl (by kernel_rfl) (by kernel_rfl) (by kernel_rfl) (fun _ _ _ h => h) (fun w h => A.hpY (p := [A.blk g6 ([.pointer (some ⟨m2, 0, none⟩), .pointer (some ⟨r4, 0, none⟩)]), A.blk g1 ([.pointer none, .pointer none]), it]) (r := [M.It m2 (M.V.beg (M.V.new (M.np pg) coh) q k) ([]), R.It r4 (M.V.beg (M.V.new (M.np pg) coh) q k)]) h (by kernel_rfl) (A.pm [0, 1, 2, 3, 4] (by kernel_rfl) (by kernel_rfl))) (.inl ⟨by kernel_rfl, by kernel_rfl, fun w h => by kernel_rfl⟩) (by kernel_rfl) ?_
    refine E.H.take 5 (.pointer (some (ad.add (k * 1)))) rfl (by kernel_rfl) (by kernel_rfl) (by kernel_rfl) (fun _ _ _ h => h) (fun w h => A.hpY (p := [A.blk g6 ([.pointer (some ⟨m2, 0, none⟩), .pointer (some ⟨r4, 0, none⟩)]), A.blk g1 ([.pointer none, .pointer none]), it]) (r := [M.It m2 (M.V.beg (M.V.new (M.np pg) coh) q k) ([]), R.It r4 (M.V.beg (M.V.new (M.np pg) coh) q k)]) h (by kernel_rfl) (A.pm [0, 1, 2, 3, 4] (by kernel_rfl) (by kernel_rfl))) (.inl ⟨by kernel_rfl, by kernel_rfl, fun w h => A.idxF (e := 5) ad ao n cap 1 .i64 k hao (by kernel_rfl) (by kernel_rfl) (by kernel_rfl) (by kernel_rfl) (by (first | assumption | ((try simp only [Bool.or_eq_false_iff, Bool.or_eq_true, Bool.and_eq_true, Bool.and_eq_false_iff, Bool.not_eq_eq_eq_not, Bool.not_true, Bool.not_false, decide_eq_true_eq, decide_eq_false_iff_not, ge_iff_le, gt_iff_lt] at *); omega))) w⟩) (by kernel_rfl) ?_
    refine E.H.take 6 (.int .u8 (q k)) rfl (by kernel_rfl) (by kernel_rfl) (by kernel_rfl) (fun _ _ _ h => h) (fun w h => A.hpY (p := [A.blk g6 ([.pointer (some ⟨m2, 0, none⟩), .pointer (some ⟨r4, 0, none⟩)]), A.blk g1 ([.pointer none, .pointer none]), it]) (r := [M.It m2 (M.V.beg (M.V.new (M.np pg) coh) q k) ([]), R.It r4 (M.V.beg (M.V.new (M.np pg) coh) q k)]) h (by kernel_rfl) (A.pm [0, 1, 2, 3, 4] (by kernel_rfl) (by kernel_rfl))) (.inl ⟨by kernel_rfl, by kernel_rfl, fun w h => A.loadF (n := n) (ad := ad) (q := q) h (k := 2) rfl hit (by kernel_rfl) (by kernel_rfl) (by (first | assumption | ((try simp only [Bool.or_eq_false_iff, Bool.or_eq_true, Bool.and_eq_true, Bool.and_eq_false_iff, Bool.not_eq_eq_eq_not, Bool.not_true, Bool.not_false, decide_eq_true_eq, decide_eq_false_iff_not, ge_iff_le, gt_iff_lt] at *); omega)))⟩) (by kernel_rfl) ?_
    refine E.H.take 7 (.int .i64 (IntKind.wrap .i64 (q k))) rfl (by kernel_rfl) (by kernel_rfl) (by kernel_rfl) (fun _ _ _ h => h) (fun w h => A.hpY (p := [A.blk g6 ([.pointer (some ⟨m2, 0, none⟩), .pointer (some ⟨r4, 0, none⟩)]), A.blk g1 ([.pointer none, .pointer none]), it]) (r := [M.It m2 (M.V.beg (M.V.new (M.np pg) coh) q k) ([]), R.It r4 (M.V.beg (M.V.new (M.np pg) coh) q k)]) h (by kernel_rfl) (A.pm [0, 1, 2, 3, 4] (by kernel_rfl) (by kernel_rfl))) (.inl ⟨by kernel_rfl, by kernel_rfl, fun w h => by kernel_rfl⟩) (by kernel_rfl) ?_
    refine E.H.all [8] (by kernel_rfl) (by simp) (List.forall_mem_cons.2 ⟨⟨_, rfl, ?_⟩, fun _ h => (List.not_mem_nil h).elim⟩)
    · skip
      refine A.G.call (I := Unit) (D := fun _ => True) (V := fun _ => .tuple #[]) (q := fun _ => [M.It m2 ((M.V.beg (M.V.new (M.np pg) coh) q k).prot ((k : Nat) : Int) (IntKind.wrap .i64 (q k))) ([])]) [A.blk g6 ([.pointer (some ⟨m2, 0, none⟩), .pointer (some ⟨r4, 0, none⟩)]), A.blk g1 ([.pointer none, .pointer none]), it, R.It r4 (M.V.beg (M.V.new (M.np pg) coh) q k)] (fun _ => [(g6, [.pointer (some ⟨m2, 0, none⟩), .pointer (some ⟨r4, 0, none⟩)]), (g1, [.pointer none, .pointer none])]) (fun _ => [it, M.It m2 ((M.V.beg (M.V.new (M.np pg) coh) q k).prot ((k : Nat) : Int) (IntKind.wrap .i64 (q k))) ([]), R.It r4 (M.V.beg (M.V.new (M.np pg) coh) q k)]) (A_Protect ((k : Nat) : Int) (IntKind.wrap .i64 (q k)) (m := m2) (V := (M.V.beg (M.V.new (M.np pg) coh) q k)) (xs := [])) (by kernel_rfl) (A.pm [3, 0, 1, 2, 4] (by kernel_rfl) (by kernel_rfl)) (fun _ => A.pm [1, 2, 3, 0, 4] (by kernel_rfl) (by kernel_rfl)) (fun w _ => by kernel_rfl) (by kernel_rfl) (fun _ hd10 => ?_)
      refine E.H.back (fun w h => A.hpY (p := [A.blk g6 ([.pointer (some ⟨m2, 0, none⟩), .pointer (some ⟨r4, 0, none⟩)]), A.blk g1 ([.pointer none, .pointer none]), it]) (r := [M.It m2 ((M.V.beg (M.V.new (M.np pg) coh) q k).prot ((k : Nat) : Int) (IntKind.wrap .i64 (q k))) ([]), R.It r4 (M.V.beg (M.V.new (M.np pg) coh) q k)]) h (by kernel_rfl) (A.pm [0, 1, 2, 3, 4] (by kernel_rfl) (by kernel_rfl))) ?_
      refine E.H.done (by kernel_rfl) ?_
      refine E.To.code ?_
      refine E.C.held (A.Y [A.blk g6 ([.pointer (some ⟨m2, 0, none⟩), .pointer (some ⟨r4, 0, none⟩)]), A.blk g1 ([.pointer none, .pointer none]), it]) (by kernel_rfl) ?_
      refine E.H.take 0 (.pointer (some ⟨g6, 1, none⟩)) rfl (by kernel_rfl) (by kernel_rfl) (by kernel_rfl) (fun _ _ _ h => h) (fun w h => A.hpY (p := [A.blk g6 ([.pointer (some ⟨m2, 0, none⟩), .pointer (some ⟨r4, 0, none⟩)]), A.blk g1 ([.pointer none, .pointer none]), it]) (r := [M.It m2 ((M.V.beg (M.V.new (M.np pg) coh) q k).prot ((k : Nat) : Int) (IntKind.wrap .i64 (q k))) ([]), R.It r4 (M.V.beg (M.V.new (M.np pg) coh) q k)]) h (by kernel_rfl) (A.pm [0, 1, 2, 3, 4] (by kernel_rfl) (by kernel_rfl))) (.inl ⟨by kernel_rfl, by kernel_rfl, fun w h => by kernel_rfl⟩) (by kernel_rfl) ?_
      refine E.H.take 1 (.pointer (some ⟨r4, 0, none⟩)) rfl (by kernel_rfl) (by kernel_rfl) (by kernel_rfl) (fun _ _ _ h => h) (fun w h => A.hpY (p := [A.blk g6 ([.pointer (some ⟨m2, 0, none⟩), .pointer (some ⟨r4, 0, none⟩)]), A.blk g1 ([.pointer none, .pointer none]), it]) (r := [M.It m2 ((M.V.beg (M.V.new (M.np pg) coh) q k).prot ((k : Nat) : Int) (IntKind.wrap .i64 (q k))) ([]), R.It r4 (M.V.beg (M.V.new (M.np pg) coh) q k)]) h (by kernel_rfl) (A.pm [0, 1, 2, 3, 4] (by kernel_rfl) (by kernel_rfl))) (.inl ⟨by kernel_rfl, by kernel_rfl, fun w h => A.Y.bld h (k := 0) (j := 1) rfl (by kernel_rfl) (by kernel_rfl)⟩) (by kernel_rfl) ?_
      refine E.H.take 2 (.int .i64 ((k : Nat) : Int)) rfl (by kernel_rfl) (by kernel_rfl) (by kernel_rfl) (fun _ _ _ h => h) (fun w h => A.hpY (p := [A.blk g6 ([.pointer (some ⟨m2, 0, none⟩), .pointer (some ⟨r4, 0, none⟩)]), A.blk g1 ([.pointer none, .pointer none]), it]) (r := [M.It m2 ((M.V.beg (M.V.new (M.np pg) coh) q k).prot ((k : Nat) : Int) (IntKind.wrap .i64 (q k))) ([]), R.It r4 (M.V.beg (M.V.new (M.np pg) coh) q k)]) h (by kernel_rfl) (A.pm [0, 1, 2, 3, 4] (by kernel_rfl) (by kernel_rfl))) (.inl ⟨by kernel_rfl, by kernel_rfl, fun w h => by kernel_rfl⟩) (by kernel_rfl) ?_
      refine E.H.take 3 (.slice ao n cap) rfl (by kernel_rfl) (by kernel_rfl) (by kernel_rfl) (fun _ _ _ h => h) (fun w h => A.hpY (p := [A.blk g6 ([.pointer (some ⟨m2, 0, none⟩), .pointer (some ⟨r4, 0, none⟩)]), A.blk g1 ([.pointer none, .pointer none]), it]) (r := [M.It m2 ((M.V.beg (M.V.new (M.np pg) coh) q k).prot ((k : Nat) : Int) (IntKind.wrap .i64 (q k))) ([]), R.It r4 (M.V.beg (M.V.new (M.np pg) coh) q k)]) h (by kernel_rfl) (A.pm [0, 1, 2, 3, 4] (by kernel_rfl) (by kernel_rfl))) (.inl ⟨by kernel_rfl, by kernel_rfl, fun w h => by kernel_rfl⟩) (by kernel_rfl) ?_
      refine E.H.take 4 (.int .i64 ((k : Nat) : Int)) rfl (by kernel_rfl) (by kernel_rfl) (by kernel_rfl) (fun _ _ _ h => h) (fun w h => A.hpY (p := [A.blk g6 ([.pointer (some ⟨m2, 0, none⟩), .pointer (some ⟨r4, 0, none⟩)]), A.blk g1 ([.pointer none, .pointer none]), it]) (r := [M.It m2 ((M.V.beg (M.V.new (M.np pg) coh) q k).prot ((k : Nat) : Int) (IntKind.wrap .i64 (q k))) ([]), R.It r4 (M.V.beg (M.V.new (M.np pg) coh) q k)]) h (by kernel_rfl) (A.pm [0, 1, 2, 3, 4] (by kernel_rfl) (by kernel_rfl))) (.inl ⟨by kernel_rfl, by kernel_rfl, fun w h => by kernel_rfl⟩) (by kernel_rfl) ?_
      refine E.H.take 5 (.pointer (some (ad.add (k * 1)))) rfl (by kernel_rfl) (by kernel_rfl) (by kernel_rfl) (fun _ _ _ h => h) (fun w h => A.hpY (p := [A.blk g6 ([.pointer (some ⟨m2, 0, none⟩), .pointer (some ⟨r4, 0, none⟩)]), A.blk g1 ([.pointer none, .pointer none]), it]) (r := [M.It m2 ((M.V.beg (M.V.new (M.np pg) coh) q k).prot ((k : Nat) : Int) (IntKind.wrap .i64 (q k))) ([]), R.It r4 (M.V.beg (M.V.new (M.np pg) coh) q k)]) h (by kernel_rfl) (A.pm [0, 1, 2, 3, 4] (by kernel_rfl) (by kernel_rfl))) (.inl ⟨by kernel_rfl, by kernel_rfl, fun w h => A.idxF (e := 5) ad ao n cap 1 .i64 k hao (by kernel_rfl) (by kernel_rfl) (by kernel_rfl) (by kernel_rfl) (by (first | assumption | ((try simp only [Bool.or_eq_false_iff, Bool.or_eq_true, Bool.and_eq_true, Bool.and_eq_false_iff, Bool.not_eq_eq_eq_not, Bool.not_true, Bool.not_false, decide_eq_true_eq, decide_eq_false_iff_not, ge_iff_le, gt_iff_lt] at *); omega))) w⟩) (by kernel_rfl) ?_
      refine E.H.take 6 (.int .u8 (q k)) rfl (by kernel_rfl) (by kernel_rfl) (by kernel_rfl) (fun _ _ _ h => h) (fun w h => A.hpY (p := [A.blk g6 ([.pointer (some ⟨m2, 0, none⟩), .pointer (some ⟨r4, 0, none⟩)]), A.blk g1 ([.pointer none, .pointer none]), it]) (r := [M.It m2 ((M.V.beg (M.V.new (M.np pg) coh) q k).prot ((k : Nat) : Int) (IntKind.wrap .i64 (q k))) ([]), R.It r4 (M.V.beg (M.V.new (M.np pg) coh) q k)]) h (by kernel_rfl) (A.pm [0, 1, 2, 3, 4] (by kernel_rfl) (by kernel_rfl))) (.inl ⟨by kernel_rfl, by kernel_rfl, fun w h => A.loadF (n := n) (ad := ad) (q := q) h (k := 2) rfl hit (by kernel_rfl) (by kernel_rfl) (by (first | assumption | ((try simp only [Bool.or_eq_false_iff, Bool.or_eq_true, Bool.and_eq_true, Bool.and_eq_false_iff, Bool.not_eq_eq_eq_not, Bool.not_true, Bool.not_false, decide_eq_true_eq, decide_eq_false_iff_not, ge_iff_le, gt_iff_lt] at *); omega)))⟩) (by kernel_rfl) ?_
      refine E.H.take 7 (.int .i64 (IntKind.wrap .i64 (q k))) rfl (by kernel_rfl) (by kernel_rfl) (by kernel_rfl) (fun _ _ _ h => h) (fun w h => A.hpY (p := [A.blk g6 ([.pointer (some ⟨m2, 0, none⟩), .pointer (some ⟨r4, 0, none⟩)]), A.blk g1 ([.pointer none, .pointer none]), it]) (r := [M.It m2 ((M.V.beg (M.V.new (M.np pg) coh) q k).prot ((k : Nat) : Int) (IntKind.wrap .i64 (q k))) ([]), R.It r4 (M.V.beg (M.V.new (M.np pg) coh) q k)]) h (by kernel_rfl) (A.pm [0, 1, 2, 3, 4] (by kernel_rfl) (by kernel_rfl))) (.inl ⟨by kernel_rfl, by kernel_rfl, fun w h => by kernel_rfl⟩) (by kernel_rfl) ?_
      refine E.H.all [8] (by kernel_rfl) (by simp) (List.forall_mem_cons.2 ⟨⟨_, rfl, ?_⟩, fun _ h => (List.not_mem_nil h).elim⟩)
      · skip
        refine A.G.call (I := Unit) (D := fun _ => True) (V := fun _ => .tuple #[]) (q := fun _ => [R.It r4 ((M.V.beg (M.V.new (M.np pg) coh) q k).prot ((k : Nat) : Int) (IntKind.wrap .i64 (q k)))]) [A.blk g6 ([.pointer (some ⟨m2, 0, none⟩), .pointer (some ⟨r4, 0, none⟩)]), A.blk g1 ([.pointer none, .pointer none]), it, M.It m2 ((M.V.beg (M.V.new (M.np pg) coh) q k).prot ((k : Nat) : Int) (IntKind.wrap .i64 (q k))) ([])] (fun _ => [(g6, [.pointer (some ⟨m2, 0, none⟩), .pointer (some ⟨r4, 0, none⟩)]), (g1, [.pointer none, .pointer none])]) (fun _ => [it, M.It m2 ((M.V.beg (M.V.new (M.np pg) coh) q k).prot ((k : Nat) : Int) (IntKind.wrap .i64 (q k))) ([]), R.It r4 ((M.V.beg (M.V.new (M.np pg) coh) q k).prot ((k : Nat) : Int) (IntKind.wrap .i64 (q k)))]) (B_Protect ((k : Nat) : Int) (IntKind.wrap .i64 (q k)) (r := r4) (V := (M.V.beg (M.V.new (M.np pg) coh) q k))) (by kernel_rfl) (A.pm [4, 0, 1, 2, 3] (by kernel_rfl) (by kernel_rfl)) (fun _ => A.pm [1, 2, 3, 4, 0] (by kernel_rfl) (by kernel_rfl)) (fun w _ => by kernel_rfl) (by kernel_rfl) (fun _ hd11 => ?_)
        refine E.H.back (fun w h => A.hpY (p := [A.blk g6 ([.pointer (some ⟨m2, 0, none⟩), .pointer (some ⟨r4, 0, none⟩)]), A.blk g1 ([.pointer none, .pointer none]), it]) (r := [M.It m2 ((M.V.beg (M.V.new (M.np pg) coh) q k).prot ((k : Nat) : Int) (IntKind.wrap .i64 (q k))) ([]), R.It r4 ((M.V.beg (M.V.new (M.np pg) coh) q k).prot ((k : Nat) : Int) (IntKind.wrap .i64 (q k)))]) h (by kernel_rfl) (A.pm [0, 1, 2, 3, 4] (by kernel_rfl) (by kernel_rfl))) ?_
        refine E.H.done (by kernel_rfl) ?_
        refine E.P.nb (E.To.code ?_)
        refine E.C.region ?_
        refine E.G.op (.int .i64 ((k : Nat) : Int)) (fun w => by kernel_rfl) (by kernel_rfl) ?_
        refine E.G.val (.int .i64 ((k + 1 : Nat) : Int)) (by kernel_rfl) (fun w h => E.run_as (a := .int .i64 (IntKind.wrap .i64 (((k : Nat) : Int) + 1))) (by kernel_rfl) (congrArg (Value.int .i64) (by exact Nz.add64 (x := k) (y := 1) (by (first | assumption | ((try simp only [Bool.or_eq_false_iff, Bool.or_eq_true, Bool.and_eq_true, Bool.and_eq_false_iff, Bool.not_eq_eq_eq_not, Bool.not_true, Bool.not_false, decide_eq_true_eq, decide_eq_false_iff_not, ge_iff_le, gt_iff_lt] at *); omega)))))) ?_
        refine E.G.op (.int .i64 ((k + 1 : Nat) : Int)) (fun w => by kernel_rfl) (by kernel_rfl) ?_
        exact E.To.round (k + 1) (by (first | assumption | ((try simp only [Bool.or_eq_false_iff, Bool.or_eq_true, Bool.and_eq_true, Bool.and_eq_false_iff, Bool.not_eq_eq_eq_not, Bool.not_true, Bool.not_false, decide_eq_true_eq, decide_eq_false_iff_not, ge_iff_le, gt_iff_lt] at *); omega))) (by (first | assumption | ((try simp only [Bool.or_eq_false_iff, Bool.or_eq_true, Bool.and_eq_true, Bool.and_eq_false_iff, Bool.not_eq_eq_eq_not, Bool.not_true, Bool.not_false, decide_eq_true_eq, decide_eq_false_iff_not, ge_iff_le, gt_iff_lt] at *); omega))) ⟨by kernel_rfl, by kernel_rfl⟩ (List.Sublist.refl _) (fun _ h => h)
  · skip
    refine E.C.exit (E.P.et (E.P.et (E.P.eh (E.To.code ?_))))
    refine E.C.weak [(6, .pointer (some ⟨g1, 0, none⟩)), (7, .bool false), (8, .pointer (some ⟨g6, 0, none⟩))] [(g6, [.pointer (some ⟨m2, 0, none⟩), .pointer (some ⟨r4, 0, none⟩)]), (g1, [.pointer none, .pointer none])] ⟨by kernel_rfl, by kernel_rfl⟩ (List.Sublist.refl _) ?_
    refine E.C.seq ?_
    refine E.C.held (A.Y [A.blk g6 ([.pointer (some ⟨m2, 0, none⟩), .pointer (some ⟨r4, 0, none⟩)]), it]) (by kernel_rfl) ?_
    refine E.H.take 0 (.agg #[.pointer (some ⟨m2, 0, none⟩), .pointer (some ⟨r4, 0, none⟩)]) rfl (by kernel_rfl) (by kernel_rfl) (by kernel_rfl) (fun _ _ _ h => h) (fun w h => A.hpY (p := [A.blk g6 ([.pointer (some ⟨m2, 0, none⟩), .pointer (some ⟨r4, 0, none⟩)]), it]) (r := [A.blk g1 ([.pointer none, .pointer none]), M.It m2 (M.V.beg (M.V.new (M.np pg) coh) q k) ([]), R.It r4 (M.V.beg (M.V.new (M.np pg) coh) q k)]) h (by kernel_rfl) (A.pm [0, 2, 1, 3, 4] (by kernel_rfl) (by kernel_rfl))) (.inl ⟨by kernel_rfl, by kernel_rfl, fun w h => A.Y.bld h (k := 0) (j := 0) rfl (by kernel_rfl) (by kernel_rfl)⟩) (by kernel_rfl) ?_
    refine E.H.take 1 (.pointer (some ⟨g6, 0, none⟩)) rfl (by kernel_rfl) (by kernel_rfl) (by kernel_rfl) (fun _ _ _ h => h) (fun w h => A.hpY (p := [A.blk g6 ([.pointer (some ⟨m2, 0, none⟩), .pointer (some ⟨r4, 0, none⟩)]), it]) (r := [A.blk g1 ([.pointer none, .pointer none]), M.It m2 (M.V.beg (M.V.new (M.np pg) coh) q k) ([]), R.It r4 (M.V.beg (M.V.new (M.np pg) coh) q k)]) h (by kernel_rfl) (A.pm [0, 2, 1, 3, 4] (by kernel_rfl) (by kernel_rfl))) (.inl ⟨by kernel_rfl, by kernel_rfl, fun w h => by kernel_rfl⟩) (by kernel_rfl) ?_
    refine E.H.take 2 (.pointer (some ⟨m2, 0, none⟩)) rfl (by kernel_rfl) (by kernel_rfl) (by kernel_rfl) (fun _ _ _ h => h) (fun w h => A.hpY (p := [A.blk g6 ([.pointer (some ⟨m2, 0, none⟩), .pointer (some ⟨r4, 0, none⟩)]), it]) (r := [A.blk g1 ([.pointer none, .pointer none]), M.It m2 (M.V.beg (M.V.new (M.np pg) coh) q k) ([]), R.It r4 (M.V.beg (M.V.new (M.np pg) coh) q k)]) h (by kernel_rfl) (A.pm [0, 2, 1, 3, 4] (by kernel_rfl) (by kernel_rfl))) (.inl ⟨by kernel_rfl, by kernel_rfl, fun w h => A.Y.bld h (k := 0) (j := 0) rfl (by kernel_rfl) (by kernel_rfl)⟩) (by kernel_rfl) ?_
    refine E.H.take 3 (.bool true) rfl (by kernel_rfl) (by kernel_rfl) (by kernel_rfl) (fun _ _ _ h => h) (fun w h => A.hpY (p := [A.blk g6 ([.pointer (some ⟨m2, 0, none⟩), .pointer (some ⟨r4, 0, none⟩)]), it]) (r := [A.blk g1 ([.pointer none, .pointer none]), M.It m2 (M.V.beg (M.V.new (M.np pg) coh) q k) ([]), R.It r4 (M.V.beg (M.V.new (M.np pg) coh) q k)]) h (by kernel_rfl) (A.pm [0, 2, 1, 3, 4] (by kernel_rfl) (by kernel_rfl))) (.inl ⟨by kernel_rfl, by kernel_rfl, fun w h => by kernel_rfl⟩) (by kernel_rfl) ?_
    refine E.H.take 4 (.bool true) rfl (by kernel_rfl) (by kernel_rfl) (by kernel_rfl) (fun _ _ _ h => h) (fun w h => A.hpY (p := [A.blk g6 ([.pointer (some ⟨m2, 0, none⟩), .pointer (some ⟨r4, 0, none⟩)]), it]) (r := [A.blk g1 ([.pointer none, .pointer none]), M.It m2 (M.V.beg (M.V.new (M.np pg) coh) q k) ([]), R.It r4 (M.V.beg (M.V.new (M.np pg) coh) q k)]) h (by kernel_rfl) (A.pm [0, 2, 1, 3, 4] (by kernel_rfl) (by kernel_rfl))) (.inl ⟨by kernel_rfl, by kernel_rfl, fun w h => by kernel_rfl⟩) (by kernel_rfl) ?_
    refine E.H.take 5 (.pointer (some ⟨g6, 0, none⟩)) rfl (by kernel_rfl) (by kernel_rfl) (by kernel_rfl) (fun _ _ _ h => h) (fun w h => A.hpY (p := [A.blk g6 ([.pointer (some ⟨m2, 0, none⟩), .pointer (some ⟨r4, 0, none⟩)]), it]) (r := [A.blk g1 ([.pointer none, .pointer none]), M.It m2 (M.V.beg (M.V.new (M.np pg) coh) q k) ([]), R.It r4 (M.V.beg (M.V.new (M.np pg) coh) q k)]) h (by kernel_rfl) (A.pm [0, 2, 1, 3, 4] (by kernel_rfl) (by kernel_rfl))) (.inl ⟨by kernel_rfl, by kernel_rfl, fun w h => by kernel_rfl⟩) (by kernel_rfl) ?_
    refine E.H.take 6 (.pointer (some ⟨m2, 0, none⟩)) rfl (by kernel_rfl) (by kernel_rfl) (by kernel_rfl) (fun _ _ _ h => h) (fun w h => A.hpY (p := [A.blk g6 ([.pointer (some ⟨m2, 0, none⟩), .pointer (some ⟨r4, 0, none⟩)]), it]) (r := [A.blk g1 ([.pointer none, .pointer none]), M.It m2 (M.V.beg (M.V.new (M.np pg) coh) q k) ([]), R.It r4 (M.V.beg (M.V.new (M.np pg) coh) q k)]) h (by kernel_rfl) (A.pm [0, 2, 1, 3, 4] (by kernel_rfl) (by kernel_rfl))) (.inl ⟨by kernel_rfl, by kernel_rfl, fun w h => A.Y.bld h (k := 0) (j := 0) rfl (by kernel_rfl) (by kernel_rfl)⟩) (by kernel_rfl) ?_
    refine E.H.take 8 (.pointer (some ⟨g6, 1, none⟩)) rfl (by kernel_rfl) (by kernel_rfl) (by kernel_rfl) (fun _ _ _ h => h) (fun w h => A.hpY (p := [A.blk g6 ([.pointer (some ⟨m2, 0, none⟩), .pointer (some ⟨r4, 0, none⟩)]), it]) (r := [A.blk g1 ([.pointer none, .pointer none]), M.It m2 (M.V.beg (M.V.new (M.np pg) coh) q k) ([]), R.It r4 (M.V.beg (M.V.new (M.np pg) coh) q k)]) h (by kernel_rfl) (A.pm [0, 2, 1, 3, 4] (by kernel_rfl) (by kernel_rfl))) (.inl ⟨by kernel_rfl, by kernel_rfl, fun w h => by kernel_rfl⟩) (by kernel_rfl) ?_
    refine E.H.take 9 (.pointer (some ⟨r4, 0, none⟩)) rfl (by kernel_rfl) (by kernel_rfl) (by kernel_rfl) (fun _ _ _ h => h) (fun w h => A.hpY (p := [A.blk g6 ([.pointer (some ⟨m2, 0, none⟩), .pointer (some ⟨r4, 0, none⟩)]), it]) (r := [A.blk g1 ([.pointer none, .pointer none]), M.It m2 (M.V.beg (M.V.new (M.np pg) coh) q k) ([]), R.It r4 (M.V.beg (M.V.new (M.np pg) coh) q k)]) h (by kernel_rfl) (A.pm [0, 2, 1, 3, 4] (by kernel_rfl) (by kernel_rfl))) (.inl ⟨by kernel_rfl, by kernel_rfl, fun w h => A.Y.bld h (k := 0) (j := 1) rfl (by kernel_rfl) (by kernel_rfl)⟩) (by kernel_rfl) ?_
    refine E.H.all [7] (by kernel_rfl) (by simp) (List.forall_mem_cons.2 ⟨⟨_, rfl, ?_⟩, fun _ h => (List.not_mem_nil h).elim⟩)
    · skip
      refine E.G.call (.int .i64 (((M.V.beg (M.V.new (M.np pg) coh) q k).n : Nat) : Int)) (fun w h => A.call_rd [A.blk g6 ([.pointer (some ⟨m2, 0, none⟩), .pointer (some ⟨r4, 0, none⟩)]), A.blk g1 ([.pointer none, .pointer none]), it, R.It r4 (M.V.beg (M.V.new (M.np pg) coh) q k)] (A_Pages (m := m2) (V := (M.V.beg (M.V.new (M.np pg) coh) q k)) (xs := [])) h (by kernel_rfl) (A.pm [3, 0, 1, 2, 4] (by kernel_rfl) (by kernel_rfl))) (fun w _ => by kernel_rfl) (by kernel_rfl) ?_
      refine E.H.back (fun w h => A.hpY (p := [A.blk g6 ([.pointer (some ⟨m2, 0, none⟩), .pointer (some ⟨r4, 0, none⟩)]), it]) (r := [A.blk g1 ([.pointer none, .pointer none]), M.It m2 (M.V.beg (M.V.new (M.np pg) coh) q k) ([]), R.It r4 (M.V.beg (M.V.new (M.np pg) coh) q k)]) h (by kernel_rfl) (A.pm [0, 2, 1, 3, 4] (by kernel_rfl) (by kernel_rfl))) ?_
      refine E.H.all [10] (by kernel_rfl) (by simp) (List.forall_mem_cons.2 ⟨⟨_, rfl, ?_⟩, fun _ h => (List.not_mem_nil h).elim⟩)
      · skip
        refine E.G.call (.int .i64 (((M.V.beg (M.V.new (M.np pg) coh) q k).n : Nat) : Int)) (fun w h => A.call_rd [A.blk g6 ([.pointer (some ⟨m2, 0, none⟩), .pointer (some ⟨r4, 0, none⟩)]), A.blk g1 ([.pointer none, .pointer none]), it, M.It m2 (M.V.beg (M.V.new (M.np pg) coh) q k) ([])] (B_Pages (r := r4) (V := (M.V.beg (M.V.new (M.np pg) coh) q k))) h (by kernel_rfl) (A.pm [4, 0, 1, 2, 3] (by kernel_rfl) (by kernel_rfl))) (fun w _ => by kernel_rfl) (by kernel_rfl) ?_
        refine E.H.back (fun w h => A.hpY (p := [A.blk g6 ([.pointer (some ⟨m2, 0, none⟩), .pointer (some ⟨r4, 0, none⟩)]), it]) (r := [A.blk g1 ([.pointer none, .pointer none]), M.It m2 (M.V.beg (M.V.new (M.np pg) coh) q k) ([]), R.It r4 (M.V.beg (M.V.new (M.np pg) coh) q k)]) h (by kernel_rfl) (A.pm [0, 2, 1, 3, 4] (by kernel_rfl) (by kernel_rfl))) ?_
        refine E.H.take 11 (.bool true) rfl (by kernel_rfl) (by kernel_rfl) (by kernel_rfl) (fun _ _ _ h => h) (fun w h => A.hpY (p := [A.blk g6 ([.pointer (some ⟨m2, 0, none⟩), .pointer (some ⟨r4, 0, none⟩)]), it]) (r := [A.blk g1 ([.pointer none, .pointer none]), M.It m2 (M.V.beg (M.V.new (M.np pg) coh) q k) ([]), R.It r4 (M.V.beg (M.V.new (M.np pg) coh) q k)]) h (by kernel_rfl) (A.pm [0, 2, 1, 3, 4] (by kernel_rfl) (by kernel_rfl))) (.inl ⟨by kernel_rfl, by kernel_rfl, fun w h => E.run_as (a := .bool ((((M.V.beg (M.V.new (M.np pg) coh) q k).n : Nat) : Int) == (((M.V.beg (M.V.new (M.np pg) coh) q k).n : Nat) : Int))) (by kernel_rfl) (congrArg Value.bool (beq_self_eq_true _))⟩) (by kernel_rfl) ?_
        refine E.H.take 12 (.bool true) rfl (by kernel_rfl) (by kernel_rfl) (by kernel_rfl) (fun _ _ _ h => h) (fun w h => A.hpY (p := [A.blk g6 ([.pointer (some ⟨m2, 0, none⟩), .pointer (some ⟨r4, 0, none⟩)]), it]) (r := [A.blk g1 ([.pointer none, .pointer none]), M.It m2 (M.V.beg (M.V.new (M.np pg) coh) q k) ([]), R.It r4 (M.V.beg (M.V.new (M.np pg) coh) q k)]) h (by kernel_rfl) (A.pm [0, 2, 1, 3, 4] (by kernel_rfl) (by kernel_rfl))) (.inl ⟨by kernel_rfl, by kernel_rfl, fun w h => by kernel_rfl⟩) (by kernel_rfl) ?_
        refine E.H.all [13] (by kernel_rfl) (by simp) (List.forall_mem_cons.2 ⟨⟨_, rfl, ?_⟩, fun _ h => (List.not_mem_nil h).elim⟩)
        · skip
          refine E.G.store 1 [.pointer (some ⟨m2, 0, none⟩), .pointer (some ⟨r4, 0, none⟩)] rfl rfl (by kernel_rfl) (by kernel_rfl) ?_
          refine E.H.back (fun w h => A.hpY (p := [A.blk g6 ([.pointer (some ⟨m2, 0, none⟩), .pointer (some ⟨r4, 0, none⟩)]), it]) (r := [A.blk g1 ([.pointer (some ⟨m2, 0, none⟩), .pointer (some ⟨r4, 0, none⟩)]), M.It m2 (M.V.beg (M.V.new (M.np pg) coh) q k) ([]), R.It r4 (M.V.beg (M.V.new (M.np pg) coh) q k)]) h (by kernel_rfl) (A.pm [0, 2, 1, 3, 4] (by kernel_rfl) (by kernel_rfl))) ?_
          refine E.H.take 14 (.bool true) rfl (by kernel_rfl) (by kernel_rfl) (by kernel_rfl) (fun _ _ _ h => h) (fun w h => A.hpY (p := [A.blk g6 ([.pointer (some ⟨m2, 0, none⟩), .pointer (some ⟨r4, 0, none⟩)]), it]) (r := [A.blk g1 ([.pointer (some ⟨m2, 0, none⟩), .pointer (some ⟨r4, 0, none⟩)]), M.It m2 (M.V.beg (M.V.new (M.np pg) coh) q k) ([]), R.It r4 (M.V.beg (M.V.new (M.np pg) coh) q k)]) h (by kernel_rfl) (A.pm [0, 2, 1, 3, 4] (by kernel_rfl) (by kernel_rfl))) (.inl ⟨by kernel_rfl, by kernel_rfl, fun w h => by kernel_rfl⟩) (by kernel_rfl) ?_
          refine E.H.done (by kernel_rfl) ?_
          refine E.To.code ?_
          refine E.C.weak [(6, .pointer (some ⟨g1, 0, none⟩)), (7, .bool true)] [(g1, [.pointer (some ⟨m2, 0, none⟩), .pointer (some ⟨r4, 0, none⟩)])] ⟨by kernel_rfl, by kernel_rfl⟩ (List.Sublist.cons _ (List.Sublist.refl _)) ?_
          refine E.C.ret (E.To.body (fn := Try.f25) [.agg #[.pointer (some ⟨m2, 0, none⟩), .pointer (some ⟨r4, 0, none⟩)], .bool true] ?_ ?_)
          · exact ⟨⟨by kernel_rfl, _, _, 0, _, rfl, rfl, by kernel_rfl⟩, ⟨by kernel_rfl, by kernel_rfl⟩, trivial⟩
          · intro w h
            have e := M.bc_end hk1 hc9
            rw [← e]
            exact ⟨(m2, r4), trivial, rfl, A.done (q := [it, M.It m2 (M.V.beg (M.V.new (M.np pg) coh) q k) ([]), R.It r4 (M.V.beg (M.V.new (M.np pg) coh) q k)]) (r := [A.blk g1 ([.pointer (some ⟨m2, 0, none⟩), .pointer (some ⟨r4, 0, none⟩)])]) h (by kernel_rfl) (A.pm [1, 2, 3, 0] (by kernel_rfl) (by kernel_rfl))⟩
end Go.Proofs.Ytdjjjikokfadiaa

/- Walks: same of the laws of mem, printed by wip/eng. No condition but what is named. -/
namespace Go.Proofs.Ytdjjjikokfadiaa
set_option linter.unusedVariables false
set_option linter.unusedSimpArgs false
open Go.RowKit
theorem M.step_p {k : Nat} (h : k < 5000) : IntKind.wrap .i64 ((((k : Nat) : Int) - 1) + 1) = (((k + 1 : Nat) : Int) - 1) := by
  rw [IntKind.wrap_i64]; omega
theorem M.dl_le (V : M.V) : ∀ k, (V.dl k).length ≤ k
  | 0 => Nat.le_refl _
  | k + 1 => by
    have := M.dl_le V k
    rw [M.V.dl]
    cases V.dty k with
    | true => rw [cond_true, List.length_append]; exact Nat.add_le_add this (Nat.le_refl 1)
    | false => rw [cond_false]; exact Nat.le_succ_of_le this
theorem M.dirty_le (V : M.V) : V.dirty.length ≤ V.n := M.dl_le V V.n
/-- The reference memory behind other items is taken apart for a walk. -/
theorem R.wrs {P : Program} {f : FuncId} {args : Array Value} {p : List A.It} {I : Type} {D : I → Prop} {v : I → Value} {q : I → List A.It} {r : Nat} {V V' : M.V} (h : R.Wf V → ∀ s, A.Tr P f args (p ++ R.its r s V) D v (fun i => q i ++ R.its r s V')) (hw' : R.Wf V → R.Wf V') : A.Tr P f args (p ++ [R.It r V]) D v (fun i => q i ++ [R.It r V']) := by
  intro w o a hh
  obtain ⟨p1, q1, p2, q2, k1, k2, d1, d2, go, ga⟩ := hh.append
  obtain ⟨p3, q3, ⟨hw, s, hs⟩, e3, e4⟩ := A.Has.one' k2
  have hh' := (k1.join hs (fun x hx hk => d1 x hx ((e4 x).1 hk)) (fun x hx hk => d2 x ((e3 x).1 hx) hk)).iff (o' := o) (a' := a) (fun x => (go x).trans (or_congr Iff.rfl (e3 x).symm)) (fun x => (ga x).trans (or_congr Iff.rfl (e4 x).symm))
  refine (h hw s w o a hh').mono fun e w' ⟨i, hD, he, o', a', hq, hc, hg⟩ => ?_
  obtain ⟨u1, v1, u2, v2, j1, j2, f1, f2, fo, fa⟩ := hq.append
  exact ⟨i, hD, he, o', a', (j1.join (A.Has.one (it := R.It r V') ⟨hw' hw, s, j2⟩) f1 f2).iff fo fa, hc, hg⟩
theorem Same_s {m r : Nat} {s : R.Sl} {V : M.V} (hw : R.Wf V) : A.Tr Try.prog 32 #[.agg #[.pointer (some ⟨m, 0, none⟩), .pointer (some ⟨r, 0, none⟩)]] (M.It m V [] :: R.its r s V) (I := Unit) (fun _ => True) (fun _ => .bool true) (fun _ => M.It m V [] :: R.its r s V) := by
  intro w oo aa hh
  have hn := hw.n
  have hl := M.dirty_le V
  refine E.enter (n := 99) (S := oo) Try.func32 rfl rfl (by kernel_rfl) (A.start (L := []) hh) ?_
  refine E.C.seq ?_
  refine E.C.region ?_
  refine E.G.new (fun g => .pointer (some ⟨g, 0, none⟩)) [.pointer (some ⟨m, 0, none⟩), .pointer (some ⟨r, 0, none⟩)] 44 (fun w => by kernel_rfl) (by kernel_rfl) (fun g1 => ?_)
  refine E.G.op (.bool false) (fun w => by kernel_rfl) (by kernel_rfl) ?_
  refine E.To.code ?_
  refine E.C.seq ?_
  refine E.C.seq ?_
  refine E.C.region ?_
  refine E.G.op (.int .i64 0) (fun w => by kernel_rfl) (by kernel_rfl) ?_
  refine E.To.code ?_
  refine E.C.block ?_
  refine E.C.loop (I := Nat) (fun k => 256 * V.n + 2 - k) (fun k => k ≤ 256 * V.n + 2) (fun k => [(1, .pointer (some ⟨g1, 0, none⟩)), (2, .bool false), (3, .int .i64 ((k : Nat) : Int))]) (fun k => A.X w oo aa [M.It m V ([]), A.blk r [.slice s.a0 (256 * V.n) s.c0, .slice s.a1 (256 * R.len V) s.c1, .slice s.a2 (256 * V.n) s.c2, .slice s.a3 (256 * R.len V) s.c3, .slice s.a4 V.n s.c4, .bool V.coh], A.vec .u8 s.a0 s.c0 (R.flat V.d V.n), A.vec .u8 s.a1 s.c1 (R.flat V.i (R.len V)), A.vec .u8 s.a2 s.c2 (R.flat V.cd V.n), A.vec .u8 s.a3 s.c3 (R.flat V.ci (R.len V)), A.vec .i64 s.a4 s.c4 (R.rts V.r V.n)]) (fun k => [(g1, [.pointer (some ⟨m, 0, none⟩), .pointer (some ⟨r, 0, none⟩)])]) 0 (Nat.zero_le _) ⟨by kernel_rfl, by kernel_rfl⟩ (List.Sublist.refl _) (fun _ h => h) (fun k hk1 => ?_)
  refine E.C.seq ?_
  refine E.C.seq ?_
  refine E.C.region ?_
  refine E.G.op (.int .i64 ((k : Nat) : Int)) (fun w => by kernel_rfl) (by kernel_rfl) ?_
  refine E.G.op (.pointer (some ⟨g1, 1, none⟩)) (fun w => by kernel_rfl) (by kernel_rfl) ?_
  refine E.G.val (.pointer (some ⟨r, 0, none⟩)) (by kernel_rfl) (fun w h => E.run_load h 0 rfl rfl (by kernel_rfl)) ?_
  refine E.G.op (.pointer (some ⟨r, 0, none⟩)) (fun w => by kernel_rfl) (by kernel_rfl) ?_
  refine E.G.op (.pointer (some ⟨r, 0, none⟩)) (fun w => by kernel_rfl) (by kernel_rfl) ?_
  refine E.G.val (.slice s.a0 (256 * V.n) s.c0) (by kernel_rfl) (fun w h => A.Y.bld (A.X.y h.x) (k := 1) (j := 0) rfl (by kernel_rfl) (by kernel_rfl)) ?_
  refine E.G.op (.int .i64 (((256 * V.n) : Nat) : Int)) (fun w => by kernel_rfl) (by kernel_rfl) ?_
  refine E.G.val (.int .i64 ((((256 * V.n)) + 2 : Nat) : Int)) (by kernel_rfl) (fun w h => E.run_as (a := .int .i64 (IntKind.wrap .i64 ((((256 * V.n) : Nat) : Int) + 2))) (by kernel_rfl) (congrArg (Value.int .i64) (by exact Nz.add64 (x := ((256 * V.n))) (y := 2) (by have := hw.n; (first | assumption | ((try simp only [Bool.or_eq_false_iff, Bool.or_eq_true, Bool.and_eq_true, Bool.and_eq_false_iff, Bool.not_eq_eq_eq_not, Bool.not_true, Bool.not_false, decide_eq_true_eq, decide_eq_false_iff_not, ge_iff_le, gt_iff_lt] at *); omega)))))) ?_
  refine E.G.op (.bool (decide (((k : Nat) : Int) < ((((256 * V.n)) + 2 : Nat) : Int)))) (fun w => by kernel_rfl) (by kernel_rfl) ?_
  refine E.To.code ?_
  refine E.C.cond (decide (((k : Nat) : Int) < ((((256 * V.n)) + 2 : Nat) : Int))) (by kernel_rfl) (by kernel_rfl) (fun hc2 => ?_) (fun hc2 => ?_)
  · skip
    refine E.C.skip (E.To.code ?_)
    refine E.C.seq ?_
    refine E.C.block ?_
    refine E.C.seq ?_
    refine E.C.quiet (by kernel_rfl) (by kernel_rfl) ?_
    refine E.W.op (.pointer (some ⟨g1, 0, none⟩)) (fun w => by kernel_rfl) (by kernel_rfl) ?_
    refine E.W.val (.pointer (some ⟨m, 0, none⟩)) (by kernel_rfl) (fun w h => E.run_load h 0 rfl rfl (by kernel_rfl)) ?_
    refine E.W.op (.int .i64 ((k : Nat) : Int)) (fun w => by kernel_rfl) (by kernel_rfl) ?_
    refine E.W.val (.int .u32 ((k : Nat) : Int)) (by kernel_rfl) (fun w h => E.run_as (a := .int .u32 (IntKind.wrap .u32 ((k : Nat) : Int))) (by kernel_rfl) (congrArg (Value.int .u32) (by exact Nz.w32 (x := k) (by have := hw.n; (first | assumption | ((try simp only [Bool.or_eq_false_iff, Bool.or_eq_true, Bool.and_eq_true, Bool.and_eq_false_iff, Bool.not_eq_eq_eq_not, Bool.not_true, Bool.not_false, decide_eq_true_eq, decide_eq_false_iff_not, ge_iff_le, gt_iff_lt] at *); omega)))))) ?_
    refine E.W.call (.int .u8 (V.peek k)) (fun w h => A.call_rd [A.blk g1 ([.pointer (some ⟨m, 0, none⟩), .pointer (some ⟨r, 0, none⟩)]), A.blk r [.slice s.a0 (256 * V.n) s.c0, .slice s.a1 (256 * R.len V) s.c1, .slice s.a2 (256 * V.n) s.c2, .slice s.a3 (256 * R.len V) s.c3, .slice s.a4 V.n s.c4, .bool V.coh], A.vec .u8 s.a0 s.c0 (R.flat V.d V.n), A.vec .u8 s.a1 s.c1 (R.flat V.i (R.len V)), A.vec .u8 s.a2 s.c2 (R.flat V.cd V.n), A.vec .u8 s.a3 s.c3 (R.flat V.ci (R.len V)), A.vec .i64 s.a4 s.c4 (R.rts V.r V.n)] (A_Peek k (by first | exact M.near_lt _ | (first | assumption | ((try simp only [Bool.or_eq_false_iff, Bool.or_eq_true, Bool.and_eq_true, Bool.and_eq_false_iff, Bool.not_eq_eq_eq_not, Bool.not_true, Bool.not_false, decide_eq_true_eq, decide_eq_false_iff_not, ge_iff_le, gt_iff_lt] at *); omega))) (m := m) (V := V) (xs := [])) h (by kernel_rfl) (A.pm [1, 0, 2, 3, 4, 5, 6, 7] (by kernel_rfl) (by kernel_rfl))) (fun w _ => by kernel_rfl) (by kernel_rfl) ?_
    refine E.W.op (.pointer (some ⟨g1, 1, none⟩)) (fun w => by kernel_rfl) (by kernel_rfl) ?_
    refine E.W.val (.pointer (some ⟨r, 0, none⟩)) (by kernel_rfl) (fun w h => E.run_load h 0 rfl rfl (by kernel_rfl)) ?_
    refine E.W.op (.int .i64 ((k : Nat) : Int)) (fun w => by kernel_rfl) (by kernel_rfl) ?_
    refine E.W.val (.int .u32 ((k : Nat) : Int)) (by kernel_rfl) (fun w h => E.run_as (a := .int .u32 (IntKind.wrap .u32 ((k : Nat) : Int))) (by kernel_rfl) (congrArg (Value.int .u32) (by exact Nz.w32 (x := k) (by have := hw.n; (first | assumption | ((try simp only [Bool.or_eq_false_iff, Bool.or_eq_true, Bool.and_eq_true, Bool.and_eq_false_iff, Bool.not_eq_eq_eq_not, Bool.not_true, Bool.not_false, decide_eq_true_eq, decide_eq_false_iff_not, ge_iff_le, gt_iff_lt] at *); omega)))))) ?_
    refine E.W.call (.int .u8 (V.peek k)) (fun w h => A.call_rd [A.blk g1 ([.pointer (some ⟨m, 0, none⟩), .pointer (some ⟨r, 0, none⟩)]), M.It m V ([])] (R_Peek k (by (first | assumption | ((try simp only [Bool.or_eq_false_iff, Bool.or_eq_true, Bool.and_eq_true, Bool.and_eq_false_iff, Bool.not_eq_eq_eq_not, Bool.not_true, Bool.not_false, decide_eq_true_eq, decide_eq_false_iff_not, ge_iff_le, gt_iff_lt] at *); omega))) (r := r) (s := s) (V := V)) h (by kernel_rfl) (A.pm [2, 3, 4, 5, 6, 7, 0, 1] (by kernel_rfl) (by kernel_rfl))) (fun w _ => by kernel_rfl) (by kernel_rfl) ?_
    refine E.W.val (.bool false) (by kernel_rfl) (fun w h => E.run_as (a := .bool ((V.peek k) != (V.peek k))) (by kernel_rfl) (congrArg Value.bool (bne_self_eq_false _))) ?_
    refine E.W.op (.bool false) (fun w => by kernel_rfl) (by kernel_rfl) ?_
    refine E.W.op (.pointer (some ⟨g1, 0, none⟩)) (fun w => by kernel_rfl) (by kernel_rfl) ?_
    refine E.W.val (.pointer (some ⟨m, 0, none⟩)) (by kernel_rfl) (fun w h => E.run_load h 0 rfl rfl (by kernel_rfl)) ?_
    refine E.W.op (.int .i64 ((k : Nat) : Int)) (fun w => by kernel_rfl) (by kernel_rfl) ?_
    refine E.W.val (.int .u32 ((k : Nat) : Int)) (by kernel_rfl) (fun w h => E.run_as (a := .int .u32 (IntKind.wrap .u32 ((k : Nat) : Int))) (by kernel_rfl) (congrArg (Value.int .u32) (by exact Nz.w32 (x := k) (by have := hw.n; (first | assumption | ((try simp only [Bool.or_eq_false_iff, Bool.or_eq_true, Bool.and_eq_true, Bool.and_eq_false_iff, Bool.not_eq_eq_eq_not, Bool.not_true, Bool.not_false, decide_eq_true_eq, decide_eq_false_iff_not, ge_iff_le, gt_iff_lt] at *); omega)))))) ?_
    refine E.W.call (.int .u8 (V.code k)) (fun w h => A.call_rd [A.blk g1 ([.pointer (some ⟨m, 0, none⟩), .pointer (some ⟨r, 0, none⟩)]), A.blk r [.slice s.a0 (256 * V.n) s.c0, .slice s.a1 (256 * R.len V) s.c1, .slice s.a2 (256 * V.n) s.c2, .slice s.a3 (256 * R.len V) s.c3, .slice s.a4 V.n s.c4, .bool V.coh], A.vec .u8 s.a0 s.c0 (R.flat V.d V.n), A.vec .u8 s.a1 s.c1 (R.flat V.i (R.len V)), A.vec .u8 s.a2 s.c2 (R.flat V.cd V.n), A.vec .u8 s.a3 s.c3 (R.flat V.ci (R.len V)), A.vec .i64 s.a4 s.c4 (R.rts V.r V.n)] (A_Code k (by first | exact M.near_lt _ | (first | assumption | ((try simp only [Bool.or_eq_false_iff, Bool.or_eq_true, Bool.and_eq_true, Bool.and_eq_false_iff, Bool.not_eq_eq_eq_not, Bool.not_true, Bool.not_false, decide_eq_true_eq, decide_eq_false_iff_not, ge_iff_le, gt_iff_lt] at *); omega))) (m := m) (V := V) (xs := [])) h (by kernel_rfl) (A.pm [1, 0, 2, 3, 4, 5, 6, 7] (by kernel_rfl) (by kernel_rfl))) (fun w _ => by kernel_rfl) (by kernel_rfl) ?_
    refine E.W.op (.pointer (some ⟨g1, 1, none⟩)) (fun w => by kernel_rfl) (by kernel_rfl) ?_
    refine E.W.val (.pointer (some ⟨r, 0, none⟩)) (by kernel_rfl) (fun w h => E.run_load h 0 rfl rfl (by kernel_rfl)) ?_
    refine E.W.op (.int .i64 ((k : Nat) : Int)) (fun w => by kernel_rfl) (by kernel_rfl) ?_
    refine E.W.val (.int .u32 ((k : Nat) : Int)) (by kernel_rfl) (fun w h => E.run_as (a := .int .u32 (IntKind.wrap .u32 ((k : Nat) : Int))) (by kernel_rfl) (congrArg (Value.int .u32) (by exact Nz.w32 (x := k) (by have := hw.n; (first | assumption | ((try simp only [Bool.or_eq_false_iff, Bool.or_eq_true, Bool.and_eq_true, Bool.and_eq_false_iff, Bool.not_eq_eq_eq_not, Bool.not_true, Bool.not_false, decide_eq_true_eq, decide_eq_false_iff_not, ge_iff_le, gt_iff_lt] at *); omega)))))) ?_
    refine E.W.call (.int .u8 (V.code k)) (fun w h => A.call_rd [A.blk g1 ([.pointer (some ⟨m, 0, none⟩), .pointer (some ⟨r, 0, none⟩)]), M.It m V ([])] (R_Code hw k (by (first | assumption | ((try simp only [Bool.or_eq_false_iff, Bool.or_eq_true, Bool.and_eq_true, Bool.and_eq_false_iff, Bool.not_eq_eq_eq_not, Bool.not_true, Bool.not_false, decide_eq_true_eq, decide_eq_false_iff_not, ge_iff_le, gt_iff_lt] at *); omega))) (r := r) (s := s) (V := V)) h (by kernel_rfl) (A.pm [2, 3, 4, 5, 6, 7, 0, 1] (by kernel_rfl) (by kernel_rfl))) (fun w _ => by kernel_rfl) (by kernel_rfl) ?_
    refine E.W.val (.bool false) (by kernel_rfl) (fun w h => E.run_as (a := .bool ((V.code k) != (V.code k))) (by kernel_rfl) (congrArg Value.bool (bne_self_eq_false _))) ?_
    refine E.W.op (.bool false) (fun w => by kernel_rfl) (by kernel_rfl) ?_
    refine E.W.done (E.To.code ?_)
    refine E.C.condF (by kernel_rfl) (by kernel_rfl) ?_
    refine E.C.skip (E.P.nb (E.To.code ?_))
    refine E.C.region ?_
    refine E.G.op (.int .i64 ((k : Nat) : Int)) (fun w => by kernel_rfl) (by kernel_rfl) ?_
    refine E.G.val (.int .i64 ((k + 1 : Nat) : Int)) (by kernel_rfl) (fun w h => E.run_as (a := .int .i64 (IntKind.wrap .i64 (((k : Nat) : Int) + 1))) (by kernel_rfl) (congrArg (Value.int .i64) (by exact Nz.add64 (x := k) (y := 1) (by have := hw.n; (first | assumption | ((try simp only [Bool.or_eq_false_iff, Bool.or_eq_true, Bool.and_eq_true, Bool.and_eq_false_iff, Bool.not_eq_eq_eq_not, Bool.not_true, Bool.not_false, decide_eq_true_eq, decide_eq_false_iff_not, ge_iff_le, gt_iff_lt] at *); omega)))))) ?_
    refine E.G.op (.int .i64 ((k + 1 : Nat) : Int)) (fun w => by kernel_rfl) (by kernel_rfl) ?_
    exact E.To.round (k + 1) (by (first | assumption | ((try simp only [Bool.or_eq_false_iff, Bool.or_eq_true, Bool.and_eq_true, Bool.and_eq_false_iff, Bool.not_eq_eq_eq_not, Bool.not_true, Bool.not_false, decide_eq_true_eq, decide_eq_false_iff_not, ge_iff_le, gt_iff_lt] at *); omega))) (by (first | assumption | ((try simp only [Bool.or_eq_false_iff, Bool.or_eq_true, Bool.and_eq_true, Bool.and_eq_false_iff, Bool.not_eq_eq_eq_not, Bool.not_true, Bool.not_false, decide_eq_true_eq, decide_eq_false_iff_not, ge_iff_le, gt_iff_lt] at *); omega))) ⟨by kernel_rfl, by kernel_rfl⟩ (List.Sublist.refl _) (fun _ h => h)
  · skip
    refine E.C.exit (E.P.et (E.P.et (E.P.eh (E.To.code ?_))))
    refine E.C.weak [(1, .pointer (some ⟨g1, 0, none⟩)), (2, .bool false)] [(g1, [.pointer (some ⟨m, 0, none⟩), .pointer (some ⟨r, 0, none⟩)])] ⟨by kernel_rfl, by kernel_rfl⟩ (List.Sublist.refl _) ?_
    refine E.C.seq ?_
    refine E.C.region ?_
    refine E.G.op (.pointer (some ⟨g1, 0, none⟩)) (fun w => by kernel_rfl) (by kernel_rfl) ?_
    refine E.G.val (.pointer (some ⟨m, 0, none⟩)) (by kernel_rfl) (fun w h => E.run_load h 0 rfl rfl (by kernel_rfl)) ?_
    refine A.G.call (I := Option Addr × Nat) (D := fun i3 => True) (V := fun i3 => .slice i3.1 V.dirty.length i3.2) (q := fun i3 => [M.It m V ([]), A.vec .i64 i3.1 i3.2 V.dirty]) [A.blk g1 ([.pointer (some ⟨m, 0, none⟩), .pointer (some ⟨r, 0, none⟩)]), A.blk r [.slice s.a0 (256 * V.n) s.c0, .slice s.a1 (256 * R.len V) s.c1, .slice s.a2 (256 * V.n) s.c2, .slice s.a3 (256 * R.len V) s.c3, .slice s.a4 V.n s.c4, .bool V.coh], A.vec .u8 s.a0 s.c0 (R.flat V.d V.n), A.vec .u8 s.a1 s.c1 (R.flat V.i (R.len V)), A.vec .u8 s.a2 s.c2 (R.flat V.cd V.n), A.vec .u8 s.a3 s.c3 (R.flat V.ci (R.len V)), A.vec .i64 s.a4 s.c4 (R.rts V.r V.n)] (fun i3 => [(g1, [.pointer (some ⟨m, 0, none⟩), .pointer (some ⟨r, 0, none⟩)])]) (fun i3 => [A.vec .i64 i3.1 i3.2 V.dirty, M.It m V ([]), A.blk r [.slice s.a0 (256 * V.n) s.c0, .slice s.a1 (256 * R.len V) s.c1, .slice s.a2 (256 * V.n) s.c2, .slice s.a3 (256 * R.len V) s.c3, .slice s.a4 V.n s.c4, .bool V.coh], A.vec .u8 s.a0 s.c0 (R.flat V.d V.n), A.vec .u8 s.a1 s.c1 (R.flat V.i (R.len V)), A.vec .u8 s.a2 s.c2 (R.flat V.cd V.n), A.vec .u8 s.a3 s.c3 (R.flat V.ci (R.len V)), A.vec .i64 s.a4 s.c4 (R.rts V.r V.n)]) (A_Dirty (m := m) (V := V) (xs := [])) (by kernel_rfl) (A.pm [1, 0, 2, 3, 4, 5, 6, 7] (by kernel_rfl) (by kernel_rfl)) (fun i3 => A.pm [2, 1, 0, 3, 4, 5, 6, 7, 8] (by kernel_rfl) (by kernel_rfl)) (fun w _ => by kernel_rfl) (by kernel_rfl) (fun i3 hd4 => ?_)
    refine E.G.op (.slice i3.1 V.dirty.length i3.2) (fun w => by kernel_rfl) (by kernel_rfl) ?_
    refine E.To.code ?_
    refine E.C.seq ?_
    refine E.C.region ?_
    refine E.G.op (.pointer (some ⟨g1, 1, none⟩)) (fun w => by kernel_rfl) (by kernel_rfl) ?_
    refine E.G.val (.pointer (some ⟨r, 0, none⟩)) (by kernel_rfl) (fun w h => E.run_load h 0 rfl rfl (by kernel_rfl)) ?_
    refine A.G.call (I := Option Addr × Nat) (D := fun i5 => True) (V := fun i5 => .slice i5.1 V.dirty.length i5.2) (q := fun i5 => [A.blk r [.slice s.a0 (256 * V.n) s.c0, .slice s.a1 (256 * R.len V) s.c1, .slice s.a2 (256 * V.n) s.c2, .slice s.a3 (256 * R.len V) s.c3, .slice s.a4 V.n s.c4, .bool V.coh], A.vec .u8 s.a0 s.c0 (R.flat V.d V.n), A.vec .u8 s.a1 s.c1 (R.flat V.i (R.len V)), A.vec .u8 s.a2 s.c2 (R.flat V.cd V.n), A.vec .u8 s.a3 s.c3 (R.flat V.ci (R.len V)), A.vec .i64 s.a4 s.c4 (R.rts V.r V.n), A.vec .i64 i5.1 i5.2 V.dirty]) [A.blk g1 ([.pointer (some ⟨m, 0, none⟩), .pointer (some ⟨r, 0, none⟩)]), A.vec .i64 i3.1 i3.2 V.dirty, M.It m V ([])] (fun i5 => [(g1, [.pointer (some ⟨m, 0, none⟩), .pointer (some ⟨r, 0, none⟩)])]) (fun i5 => [A.vec .i64 i5.1 i5.2 V.dirty, A.vec .i64 i3.1 i3.2 V.dirty, M.It m V ([]), A.blk r [.slice s.a0 (256 * V.n) s.c0, .slice s.a1 (256 * R.len V) s.c1, .slice s.a2 (256 * V.n) s.c2, .slice s.a3 (256 * R.len V) s.c3, .slice s.a4 V.n s.c4, .bool V.coh], A.vec .u8 s.a0 s.c0 (R.flat V.d V.n), A.vec .u8 s.a1 s.c1 (R.flat V.i (R.len V)), A.vec .u8 s.a2 s.c2 (R.flat V.cd V.n), A.vec .u8 s.a3 s.c3 (R.flat V.ci (R.len V)), A.vec .i64 s.a4 s.c4 (R.rts V.r V.n)]) (R_Dirty (r := r) (s := s) (V := V) hw) (by kernel_rfl) (A.pm [3, 4, 5, 6, 7, 8, 0, 1, 2] (by kernel_rfl) (by kernel_rfl)) (fun i5 => A.pm [7, 6, 8, 9, 0, 1, 2, 3, 4, 5] (by kernel_rfl) (by kernel_rfl)) (fun w _ => by kernel_rfl) (by kernel_rfl) (fun i5 hd6 => ?_)
    refine E.G.op (.slice i5.1 V.dirty.length i5.2) (fun w => by kernel_rfl) (by kernel_rfl) ?_
    refine E.To.code ?_
    refine E.C.seq ?_
    refine E.C.seq ?_
    refine E.C.region ?_
    refine E.G.op (.slice i3.1 V.dirty.length i3.2) (fun w => by kernel_rfl) (by kernel_rfl) ?_
    refine E.G.op (.int .i64 ((V.dirty.length : Nat) : Int)) (fun w => by kernel_rfl) (by kernel_rfl) ?_
    refine E.G.op (.slice i5.1 V.dirty.length i5.2) (fun w => by kernel_rfl) (by kernel_rfl) ?_
    refine E.G.op (.int .i64 ((V.dirty.length : Nat) : Int)) (fun w => by kernel_rfl) (by kernel_rfl) ?_
    refine E.G.val (.bool false) (by kernel_rfl) (fun w h => E.run_as (a := .bool (((V.dirty.length : Nat) : Int) != ((V.dirty.length : Nat) : Int))) (by kernel_rfl) (congrArg Value.bool (bne_self_eq_false _))) ?_
    refine E.To.code ?_
    refine E.C.weak [(1, .pointer (some ⟨g1, 0, none⟩)), (2, .bool false), (4, .slice i3.1 V.dirty.length i3.2), (5, .slice i5.1 V.dirty.length i5.2), (53, .bool false)] [(g1, [.pointer (some ⟨m, 0, none⟩), .pointer (some ⟨r, 0, none⟩)])] ⟨by kernel_rfl, by kernel_rfl⟩ (List.Sublist.refl _) ?_
    refine E.C.condF (by kernel_rfl) (by kernel_rfl) ?_
    refine E.C.skip (E.To.code ?_)
    refine E.C.seq ?_
    refine E.C.seq ?_
    refine E.C.region ?_
    refine E.G.op (.int .i64 0) (fun w => by kernel_rfl) (by kernel_rfl) ?_
    refine E.To.code ?_
    refine E.C.block ?_
    refine E.C.loop (I := Nat) (fun k => V.dirty.length - k) (fun k => k ≤ V.dirty.length) (fun k => [(1, .pointer (some ⟨g1, 0, none⟩)), (2, .bool false), (4, .slice i3.1 V.dirty.length i3.2), (5, .slice i5.1 V.dirty.length i5.2), (6, .int .i64 ((k : Nat) : Int))]) (fun k => A.X w oo aa [A.vec .i64 i5.1 i5.2 V.dirty, A.vec .i64 i3.1 i3.2 V.dirty, M.It m V ([]), A.blk r [.slice s.a0 (256 * V.n) s.c0, .slice s.a1 (256 * R.len V) s.c1, .slice s.a2 (256 * V.n) s.c2, .slice s.a3 (256 * R.len V) s.c3, .slice s.a4 V.n s.c4, .bool V.coh], A.vec .u8 s.a0 s.c0 (R.flat V.d V.n), A.vec .u8 s.a1 s.c1 (R.flat V.i (R.len V)), A.vec .u8 s.a2 s.c2 (R.flat V.cd V.n), A.vec .u8 s.a3 s.c3 (R.flat V.ci (R.len V)), A.vec .i64 s.a4 s.c4 (R.rts V.r V.n)]) (fun k => [(g1, [.pointer (some ⟨m, 0, none⟩), .pointer (some ⟨r, 0, none⟩)])]) 0 (Nat.zero_le _) ⟨by kernel_rfl, by kernel_rfl⟩ (List.Sublist.refl _) (fun _ h => h) (fun k hk2 => ?_)
    refine E.C.seq ?_
    refine E.C.seq ?_
    refine E.C.region ?_
    refine E.G.op (.int .i64 ((k : Nat) : Int)) (fun w => by kernel_rfl) (by kernel_rfl) ?_
    refine E.G.op (.slice i3.1 V.dirty.length i3.2) (fun w => by kernel_rfl) (by kernel_rfl) ?_
    refine E.G.op (.int .i64 ((V.dirty.length : Nat) : Int)) (fun w => by kernel_rfl) (by kernel_rfl) ?_
    refine E.G.op (.bool (decide (((k : Nat) : Int) < ((V.dirty.length : Nat) : Int)))) (fun w => by kernel_rfl) (by kernel_rfl) ?_
    refine E.To.code ?_
    refine E.C.cond (decide (((k : Nat) : Int) < ((V.dirty.length : Nat) : Int))) (by kernel_rfl) (by kernel_rfl) (fun hc7 => ?_) (fun hc7 => ?_)
    · skip
      refine E.C.skip (E.To.code ?_)
      refine E.C.seq ?_
      refine E.C.block ?_
      refine E.C.seq ?_
      refine E.C.quiet (by kernel_rfl) (by kernel_rfl) ?_
      refine E.W.op (.slice i3.1 V.dirty.length i3.2) (fun w => by kernel_rfl) (by kernel_rfl) ?_
      refine E.W.op (.int .i64 ((k : Nat) : Int)) (fun w => by kernel_rfl) (by kernel_rfl) ?_
      refine E.W.val (.pointer (some ⟨(A.bk i3.1), k, none⟩)) (by kernel_rfl) (fun w h => A.Y.idx (e := 3) (ik := .i64) (i := k) (len := V.dirty.length) (c2 := i3.2) (A.X.y h.x) (k := 1) rfl (by kernel_rfl) (by kernel_rfl) (by kernel_rfl) (by kernel_rfl) (by (first | assumption | ((try simp only [Bool.or_eq_false_iff, Bool.or_eq_true, Bool.and_eq_true, Bool.and_eq_false_iff, Bool.not_eq_eq_eq_not, Bool.not_true, Bool.not_false, decide_eq_true_eq, decide_eq_false_iff_not, ge_iff_le, gt_iff_lt] at *); omega))) (by (first | assumption | ((try simp only [Bool.or_eq_false_iff, Bool.or_eq_true, Bool.and_eq_true, Bool.and_eq_false_iff, Bool.not_eq_eq_eq_not, Bool.not_true, Bool.not_false, decide_eq_true_eq, decide_eq_false_iff_not, ge_iff_le, gt_iff_lt] at *); omega)))) ?_
      refine E.W.val (.int .i64 (V.dirty.getD k 0)) (by kernel_rfl) (fun w h => A.Y.vld (A.X.y h.x) (k := 1) (i := k) rfl (by kernel_rfl) (by kernel_rfl) (by (first | assumption | ((try simp only [Bool.or_eq_false_iff, Bool.or_eq_true, Bool.and_eq_true, Bool.and_eq_false_iff, Bool.not_eq_eq_eq_not, Bool.not_true, Bool.not_false, decide_eq_true_eq, decide_eq_false_iff_not, ge_iff_le, gt_iff_lt] at *); omega)))) ?_
      refine E.W.op (.slice i5.1 V.dirty.length i5.2) (fun w => by kernel_rfl) (by kernel_rfl) ?_
      refine E.W.op (.int .i64 ((k : Nat) : Int)) (fun w => by kernel_rfl) (by kernel_rfl) ?_
      refine E.W.val (.pointer (some ⟨(A.bk i5.1), k, none⟩)) (by kernel_rfl) (fun w h => A.Y.idx (e := 3) (ik := .i64) (i := k) (len := V.dirty.length) (c2 := i5.2) (A.X.y h.x) (k := 0) rfl (by kernel_rfl) (by kernel_rfl) (by kernel_rfl) (by kernel_rfl) (by (first | assumption | ((try simp only [Bool.or_eq_false_iff, Bool.or_eq_true, Bool.and_eq_true, Bool.and_eq_false_iff, Bool.not_eq_eq_eq_not, Bool.not_true, Bool.not_false, decide_eq_true_eq, decide_eq_false_iff_not, ge_iff_le, gt_iff_lt] at *); omega))) (by (first | assumption | ((try simp only [Bool.or_eq_false_iff, Bool.or_eq_true, Bool.and_eq_true, Bool.and_eq_false_iff, Bool.not_eq_eq_eq_not, Bool.not_true, Bool.not_false, decide_eq_true_eq, decide_eq_false_iff_not, ge_iff_le, gt_iff_lt] at *); omega)))) ?_
      refine E.W.val (.int .i64 (V.dirty.getD k 0)) (by kernel_rfl) (fun w h => A.Y.vld (A.X.y h.x) (k := 0) (i := k) rfl (by kernel_rfl) (by kernel_rfl) (by (first | assumption | ((try simp only [Bool.or_eq_false_iff, Bool.or_eq_true, Bool.and_eq_true, Bool.and_eq_false_iff, Bool.not_eq_eq_eq_not, Bool.not_true, Bool.not_false, decide_eq_true_eq, decide_eq_false_iff_not, ge_iff_le, gt_iff_lt] at *); omega)))) ?_
      refine E.W.val (.bool false) (by kernel_rfl) (fun w h => E.run_as (a := .bool ((V.dirty.getD k 0) != (V.dirty.getD k 0))) (by kernel_rfl) (congrArg Value.bool (bne_self_eq_false _))) ?_
      refine E.W.done (E.To.code ?_)
      refine E.C.condF (by kernel_rfl) (by kernel_rfl) ?_
      refine E.C.skip (E.P.nb (E.To.code ?_))
      refine E.C.region ?_
      refine E.G.op (.int .i64 ((k : Nat) : Int)) (fun w => by kernel_rfl) (by kernel_rfl) ?_
      refine E.G.val (.int .i64 ((k + 1 : Nat) : Int)) (by kernel_rfl) (fun w h => E.run_as (a := .int .i64 (IntKind.wrap .i64 (((k : Nat) : Int) + 1))) (by kernel_rfl) (congrArg (Value.int .i64) (by exact Nz.add64 (x := k) (y := 1) (by have := hw.n; (first | assumption | ((try simp only [Bool.or_eq_false_iff, Bool.or_eq_true, Bool.and_eq_true, Bool.and_eq_false_iff, Bool.not_eq_eq_eq_not, Bool.not_true, Bool.not_false, decide_eq_true_eq, decide_eq_false_iff_not, ge_iff_le, gt_iff_lt] at *); omega)))))) ?_
      refine E.G.op (.int .i64 ((k + 1 : Nat) : Int)) (fun w => by kernel_rfl) (by kernel_rfl) ?_
      exact E.To.round (k + 1) (by (first | assumption | ((try simp only [Bool.or_eq_false_iff, Bool.or_eq_true, Bool.and_eq_true, Bool.and_eq_false_iff, Bool.not_eq_eq_eq_not, Bool.not_true, Bool.not_false, decide_eq_true_eq, decide_eq_false_iff_not, ge_iff_le, gt_iff_lt] at *); omega))) (by (first | assumption | ((try simp only [Bool.or_eq_false_iff, Bool.or_eq_true, Bool.and_eq_true, Bool.and_eq_false_iff, Bool.not_eq_eq_eq_not, Bool.not_true, Bool.not_false, decide_eq_true_eq, decide_eq_false_iff_not, ge_iff_le, gt_iff_lt] at *); omega))) ⟨by kernel_rfl, by kernel_rfl⟩ (List.Sublist.refl _) (fun _ h => h)
    · skip
      refine E.C.exit (E.P.et (E.P.et (E.P.eh (E.To.code ?_))))
      refine E.C.seq ?_
      refine E.C.seq ?_
      refine E.C.region ?_
      refine E.G.op (.int .i64 (-1)) (fun w => by kernel_rfl) (by kernel_rfl) ?_
      refine E.To.code ?_
      refine E.C.block ?_
      refine E.C.loop (I := Nat) (fun k => V.n + 2 - k) (fun k => k ≤ V.n + 2) (fun k => [(1, .pointer (some ⟨g1, 0, none⟩)), (2, .bool false), (7, .int .i64 (((k : Nat) : Int) - 1))]) (fun k => A.X w oo aa [A.vec .i64 i5.1 i5.2 V.dirty, A.vec .i64 i3.1 i3.2 V.dirty, M.It m V ([]), A.blk r [.slice s.a0 (256 * V.n) s.c0, .slice s.a1 (256 * R.len V) s.c1, .slice s.a2 (256 * V.n) s.c2, .slice s.a3 (256 * R.len V) s.c3, .slice s.a4 V.n s.c4, .bool V.coh], A.vec .u8 s.a0 s.c0 (R.flat V.d V.n), A.vec .u8 s.a1 s.c1 (R.flat V.i (R.len V)), A.vec .u8 s.a2 s.c2 (R.flat V.cd V.n), A.vec .u8 s.a3 s.c3 (R.flat V.ci (R.len V)), A.vec .i64 s.a4 s.c4 (R.rts V.r V.n)]) (fun k => [(g1, [.pointer (some ⟨m, 0, none⟩), .pointer (some ⟨r, 0, none⟩)])]) 0 (Nat.zero_le _) ⟨by kernel_rfl, by kernel_rfl⟩ (List.Sublist.refl _) (fun _ h => h) (fun k hk3 => ?_)
      refine E.C.seq ?_
      refine E.C.seq ?_
      refine E.C.region ?_
      refine E.G.op (.int .i64 (((k : Nat) : Int) - 1)) (fun w => by kernel_rfl) (by kernel_rfl) ?_
      refine E.G.op (.pointer (some ⟨g1, 1, none⟩)) (fun w => by kernel_rfl) (by kernel_rfl) ?_
      refine E.G.val (.pointer (some ⟨r, 0, none⟩)) (by kernel_rfl) (fun w h => E.run_load h 0 rfl rfl (by kernel_rfl)) ?_
      refine E.G.op (.pointer (some ⟨r, 0, none⟩)) (fun w => by kernel_rfl) (by kernel_rfl) ?_
      refine E.G.op (.pointer (some ⟨r, 4, none⟩)) (fun w => by kernel_rfl) (by kernel_rfl) ?_
      refine E.G.val (.slice s.a4 V.n s.c4) (by kernel_rfl) (fun w h => A.Y.bld (A.X.y h.x) (k := 3) (j := 4) rfl (by kernel_rfl) (by kernel_rfl)) ?_
      refine E.G.op (.int .i64 ((V.n : Nat) : Int)) (fun w => by kernel_rfl) (by kernel_rfl) ?_
      refine E.G.op (.bool (decide ((((k : Nat) : Int) - 1) ≤ ((V.n : Nat) : Int)))) (fun w => by kernel_rfl) (by kernel_rfl) ?_
      refine E.To.code ?_
      refine E.C.cond (decide ((((k : Nat) : Int) - 1) ≤ ((V.n : Nat) : Int))) (by kernel_rfl) (by kernel_rfl) (fun hc8 => ?_) (fun hc8 => ?_)
      · skip
        refine E.C.skip (E.To.code ?_)
        refine E.C.seq ?_
        refine E.C.block ?_
        refine E.C.seq ?_
        refine E.C.quiet (by kernel_rfl) (by kernel_rfl) ?_
        refine E.W.op (.pointer (some ⟨g1, 0, none⟩)) (fun w => by kernel_rfl) (by kernel_rfl) ?_
        refine E.W.val (.pointer (some ⟨m, 0, none⟩)) (by kernel_rfl) (fun w h => E.run_load h 0 rfl rfl (by kernel_rfl)) ?_
        refine E.W.op (.int .i64 (((k : Nat) : Int) - 1)) (fun w => by kernel_rfl) (by kernel_rfl) ?_
        refine E.W.call (.int .i64 (V.rt (((k : Nat) : Int) - 1))) (fun w h => A.call_rd [A.blk g1 ([.pointer (some ⟨m, 0, none⟩), .pointer (some ⟨r, 0, none⟩)]), A.vec .i64 i5.1 i5.2 V.dirty, A.vec .i64 i3.1 i3.2 V.dirty, A.blk r [.slice s.a0 (256 * V.n) s.c0, .slice s.a1 (256 * R.len V) s.c1, .slice s.a2 (256 * V.n) s.c2, .slice s.a3 (256 * R.len V) s.c3, .slice s.a4 V.n s.c4, .bool V.coh], A.vec .u8 s.a0 s.c0 (R.flat V.d V.n), A.vec .u8 s.a1 s.c1 (R.flat V.i (R.len V)), A.vec .u8 s.a2 s.c2 (R.flat V.cd V.n), A.vec .u8 s.a3 s.c3 (R.flat V.ci (R.len V)), A.vec .i64 s.a4 s.c4 (R.rts V.r V.n)] (A_Rights (((k : Nat) : Int) - 1) (m := m) (V := V) (xs := [])) h (by kernel_rfl) (A.pm [3, 0, 1, 2, 4, 5, 6, 7, 8, 9] (by kernel_rfl) (by kernel_rfl))) (fun w _ => by kernel_rfl) (by kernel_rfl) ?_
        refine E.W.op (.pointer (some ⟨g1, 1, none⟩)) (fun w => by kernel_rfl) (by kernel_rfl) ?_
        refine E.W.val (.pointer (some ⟨r, 0, none⟩)) (by kernel_rfl) (fun w h => E.run_load h 0 rfl rfl (by kernel_rfl)) ?_
        refine E.W.op (.int .i64 (((k : Nat) : Int) - 1)) (fun w => by kernel_rfl) (by kernel_rfl) ?_
        refine E.W.call (.int .i64 (V.rt (((k : Nat) : Int) - 1))) (fun w h => A.call_rd [A.blk g1 ([.pointer (some ⟨m, 0, none⟩), .pointer (some ⟨r, 0, none⟩)]), A.vec .i64 i5.1 i5.2 V.dirty, A.vec .i64 i3.1 i3.2 V.dirty, M.It m V ([])] (R_RightsOf (((k : Nat) : Int) - 1) (r := r) (s := s) (V := V)) h (by kernel_rfl) (A.pm [4, 5, 6, 7, 8, 9, 0, 1, 2, 3] (by kernel_rfl) (by kernel_rfl))) (fun w _ => by kernel_rfl) (by kernel_rfl) ?_
        refine E.W.val (.bool false) (by kernel_rfl) (fun w h => E.run_as (a := .bool ((V.rt (((k : Nat) : Int) - 1)) != (V.rt (((k : Nat) : Int) - 1)))) (by kernel_rfl) (congrArg Value.bool (bne_self_eq_false _))) ?_
        refine E.W.op (.bool false) (fun w => by kernel_rfl) (by kernel_rfl) ?_
        refine E.W.op (.pointer (some ⟨g1, 0, none⟩)) (fun w => by kernel_rfl) (by kernel_rfl) ?_
        refine E.W.val (.pointer (some ⟨m, 0, none⟩)) (by kernel_rfl) (fun w h => E.run_load h 0 rfl rfl (by kernel_rfl)) ?_
        refine E.W.op (.int .i64 (((k : Nat) : Int) - 1)) (fun w => by kernel_rfl) (by kernel_rfl) ?_
        refine E.W.call (.string (V.page (((k : Nat) : Int) - 1))) (fun w h => A.call_rd [A.blk g1 ([.pointer (some ⟨m, 0, none⟩), .pointer (some ⟨r, 0, none⟩)]), A.vec .i64 i5.1 i5.2 V.dirty, A.vec .i64 i3.1 i3.2 V.dirty, A.blk r [.slice s.a0 (256 * V.n) s.c0, .slice s.a1 (256 * R.len V) s.c1, .slice s.a2 (256 * V.n) s.c2, .slice s.a3 (256 * R.len V) s.c3, .slice s.a4 V.n s.c4, .bool V.coh], A.vec .u8 s.a0 s.c0 (R.flat V.d V.n), A.vec .u8 s.a1 s.c1 (R.flat V.i (R.len V)), A.vec .u8 s.a2 s.c2 (R.flat V.cd V.n), A.vec .u8 s.a3 s.c3 (R.flat V.ci (R.len V)), A.vec .i64 s.a4 s.c4 (R.rts V.r V.n)] (A_Page (((k : Nat) : Int) - 1) (m := m) (V := V) (xs := [])) h (by kernel_rfl) (A.pm [3, 0, 1, 2, 4, 5, 6, 7, 8, 9] (by kernel_rfl) (by kernel_rfl))) (fun w _ => by kernel_rfl) (by kernel_rfl) ?_
        refine E.W.op (.pointer (some ⟨g1, 1, none⟩)) (fun w => by kernel_rfl) (by kernel_rfl) ?_
        refine E.W.val (.pointer (some ⟨r, 0, none⟩)) (by kernel_rfl) (fun w h => E.run_load h 0 rfl rfl (by kernel_rfl)) ?_
        refine E.W.op (.int .i64 (((k : Nat) : Int) - 1)) (fun w => by kernel_rfl) (by kernel_rfl) ?_
        refine E.W.call (.string (V.page (((k : Nat) : Int) - 1))) (fun w h => A.call_rd [A.blk g1 ([.pointer (some ⟨m, 0, none⟩), .pointer (some ⟨r, 0, none⟩)]), A.vec .i64 i5.1 i5.2 V.dirty, A.vec .i64 i3.1 i3.2 V.dirty, M.It m V ([])] (R_Page hw (((k : Nat) : Int) - 1) (r := r) (s := s) (V := V)) h (by kernel_rfl) (A.pm [4, 5, 6, 7, 8, 9, 0, 1, 2, 3] (by kernel_rfl) (by kernel_rfl))) (fun w _ => by kernel_rfl) (by kernel_rfl) ?_
        refine E.W.val (.bool false) (by kernel_rfl) (fun w h => E.run_as (a := .bool (!((V.page (((k : Nat) : Int) - 1)).toList == (V.page (((k : Nat) : Int) - 1)).toList))) (by kernel_rfl) (congrArg Value.bool (by rw [beq_self_eq_true]; rfl))) ?_
        refine E.W.op (.bool false) (fun w => by kernel_rfl) (by kernel_rfl) ?_
        refine E.W.done (E.To.code ?_)
        refine E.C.condF (by kernel_rfl) (by kernel_rfl) ?_
        refine E.C.skip (E.P.nb (E.To.code ?_))
        refine E.C.region ?_
        refine E.G.op (.int .i64 (((k : Nat) : Int) - 1)) (fun w => by kernel_rfl) (by kernel_rfl) ?_
        refine E.G.val (.int .i64 (((k + 1 : Nat) : Int) - 1)) (by kernel_rfl) (fun w h => E.run_as (a := .int .i64 (IntKind.wrap .i64 ((((k : Nat) : Int) - 1) + 1))) (by kernel_rfl) (congrArg (Value.int .i64) (M.step_p (by have := hw.n; (first | assumption | ((try simp only [Bool.or_eq_false_iff, Bool.or_eq_true, Bool.and_eq_true, Bool.and_eq_false_iff, Bool.not_eq_eq_eq_not, Bool.not_true, Bool.not_false, decide_eq_true_eq, decide_eq_false_iff_not, ge_iff_le, gt_iff_lt] at *); omega)))))) ?_
        refine E.G.op (.int .i64 (((k + 1 : Nat) : Int) - 1)) (fun w => by kernel_rfl) (by kernel_rfl) ?_
        exact E.To.round (k + 1) (by (first | assumption | ((try simp only [Bool.or_eq_false_iff, Bool.or_eq_true, Bool.and_eq_true, Bool.and_eq_false_iff, Bool.not_eq_eq_eq_not, Bool.not_true, Bool.not_false, decide_eq_true_eq, decide_eq_false_iff_not, ge_iff_le, gt_iff_lt] at *); omega))) (by (first | assumption | ((try simp only [Bool.or_eq_false_iff, Bool.or_eq_true, Bool.and_eq_true, Bool.and_eq_false_iff, Bool.not_eq_eq_eq_not, Bool.not_true, Bool.not_false, decide_eq_true_eq, decide_eq_false_iff_not, ge_iff_le, gt_iff_lt] at *); omega))) ⟨by kernel_rfl, by kernel_rfl⟩ (List.Sublist.refl _) (fun _ h => h)
      · skip
        refine E.C.exit (E.P.et (E.P.et (E.P.eh (E.To.code ?_))))
        refine E.C.weak [(2, .bool false)] [] ⟨by kernel_rfl, by kernel_rfl⟩ (List.nil_sublist _) ?_
        refine E.C.seq ?_
        refine E.C.region ?_
        refine E.G.op (.bool true) (fun w => by kernel_rfl) (by kernel_rfl) ?_
        refine E.To.code ?_
        refine E.C.ret (E.To.body (fn := Try.f32) [.bool true] ?_ ?_)
        · exact ⟨⟨by kernel_rfl, by kernel_rfl⟩, trivial⟩
        · intro w h
          exact ⟨(), trivial, rfl, A.done (q := [M.It m V ([]), A.blk r [.slice s.a0 (256 * V.n) s.c0, .slice s.a1 (256 * R.len V) s.c1, .slice s.a2 (256 * V.n) s.c2, .slice s.a3 (256 * R.len V) s.c3, .slice s.a4 V.n s.c4, .bool V.coh], A.vec .u8 s.a0 s.c0 (R.flat V.d V.n), A.vec .u8 s.a1 s.c1 (R.flat V.i (R.len V)), A.vec .u8 s.a2 s.c2 (R.flat V.cd V.n), A.vec .u8 s.a3 s.c3 (R.flat V.ci (R.len V)), A.vec .i64 s.a4 s.c4 (R.rts V.r V.n)]) (r := [A.vec .i64 i5.1 i5.2 V.dirty, A.vec .i64 i3.1 i3.2 V.dirty]) h (by kernel_rfl) (A.pm [2, 3, 4, 5, 6, 7, 8, 0, 1] (by kernel_rfl) (by kernel_rfl))⟩
theorem Same {m r : Nat} {V : M.V} : A.Tr Try.prog 32 #[.agg #[.pointer (some ⟨m, 0, none⟩), .pointer (some ⟨r, 0, none⟩)]] [M.It m V [], R.It r V] (I := Unit) (fun _ => True) (fun _ => .bool true) (fun _ => [M.It m V [], R.It r V]) := R.wrs (p := [M.It m V []]) (q := fun _ => [M.It m V []]) (fun hw s => Same_s hw) id
end Go.Proofs.Ytdjjjikokfadiaa

/- Walks: MemPlays, printed by wip/eng. No condition but what is named. -/
namespace Go.Proofs.Ytdjjjikokfadiaa
set_option linter.unusedVariables false
set_option linter.unusedSimpArgs false
open Go.RowKit
/-- The cells of a slice of bytes. -/
def M.byF (ad : Addr) (n : Nat) (q : Nat → Int) : Addr → Value → Prop := fun a v => ∃ i, i < n ∧ a = ad.add i ∧ v = .int .u8 (q i)
theorem M.byF_hit {ad : Addr} {n : Nat} {q : Nat → Int} : ∀ w o a, (A.facts (M.byF ad n q)).t w o a → ∀ i, i < n → w.cell? (ad.add i) = some (.int .u8 (q i)) := fun w o a h i hi => h.1 _ _ ⟨i, hi, rfl, rfl⟩
theorem M.blk_hit {g n : Nat} {q : Nat → Int} {cs : List Value} (hq : ∀ i, i < n → cs[i]? = some (.int .u8 (q i))) : ∀ w o a, (A.blk g cs).t w o a → ∀ i, i < n → w.cell? (Addr.add ⟨g, 0, none⟩ i) = some (.int .u8 (q i)) := fun w o a h i hi => by
  have := h.1 i _ (hq i hi)
  rw [show Addr.add ⟨g, 0, none⟩ i = ⟨g, i, none⟩ by simp [Addr.add]; omega]; exact this
theorem M.tm4 {x : Int} (h : 0 ≤ x ∧ x < 256) : IntKind.wrap .i64 (Int.tmod x 4) < 9223372036854775807 := by
  rw [Int.tmod_eq_emod_of_nonneg h.1, IntKind.wrap_i64]; omega
theorem A.no1 {F : Addr → Value → Prop} {w : World} {o a : Nat → Prop} (h : A.Has [A.facts F] w o a) (x : Nat) : ¬ o x := fun hx => by
  obtain ⟨p1, q1, p2, q2, h1, h2, _, _, ho, _⟩ := h
  rcases (ho x).1 hx with k | k
  · exact h1.2.1 x k
  · exact h2.1 x k
theorem A.no2 {F G : Addr → Value → Prop} {w : World} {o a : Nat → Prop} (h : A.Has [A.facts F, A.facts G] w o a) (x : Nat) : ¬ o x := fun hx => by
  obtain ⟨p1, q1, p2, q2, h1, h2, _, _, ho, _⟩ := h
  rcases (ho x).1 hx with k | k
  · exact h1.2.1 x k
  · exact A.no1 h2 x k
theorem A.facts2 {F G : Addr → Value → Prop} {w : World} (h : ∀ ad v, F ad v → w.cell? ad = some v) (k : ∀ ad v, G ad v → w.cell? ad = some v) : A.Has [A.facts F, A.facts G] w (fun x => False ∨ False) (fun x => (∃ ad v, F ad v ∧ ad.block = x) ∨ ∃ ad v, G ad v ∧ ad.block = x) :=
  (A.facts_has h).join (A.facts_has k) (fun _ h => h.elim) (fun _ h => h.elim)
theorem MemPlays_rd (pg : Int) (hpg : 0 ≤ pg ∧ pg < 256) (coh : Bool) {ao0 : Option Addr} {ad0 : Addr} {n0 cap0 : Nat} {q0 : Nat → Int} (hao0 : 0 < n0 → ao0 = some ad0) {ao1 : Option Addr} {ad1 : Addr} {n1 cap1 : Nat} {q1 : Nat → M.Op} (hao1 : 0 < n1 → ao1 = some ad1) : A.Rd Try.prog 8 #[.int .u8 pg, .bool coh, .agg #[.slice ao0 n0 cap0, .slice ao1 n1 cap1]] [A.facts (M.byF ad0 n0 q0), A.facts (M.opF ad1 n1 q1)] (.bool true) := by
  intro w oo aa hh
  refine E.enter (n := 35) (S := oo) Try.func8 rfl rfl (by kernel_rfl) (A.start (L := []) hh) ?_
  refine E.C.seq ?_
  refine E.C.region ?_
  refine E.G.new (fun g => .pointer (some ⟨g, 0, none⟩)) [.slice ao0 n0 cap0, .slice ao1 n1 cap1] 58 (fun w => by kernel_rfl) (by kernel_rfl) (fun g1 => ?_)
  refine E.G.op (.bool false) (fun w => by kernel_rfl) (by kernel_rfl) ?_
  refine E.To.code ?_
  refine E.C.seq ?_
  refine E.C.region ?_
  refine E.G.call (.bool true) (fun w h => A.call_rd [A.blk g1 ([.slice ao0 n0 cap0, .slice ao1 n1 cap1]), A.facts (M.byF ad0 n0 q0), A.facts (M.opF ad1 n1 q1)] (San) h (by kernel_rfl) (A.pm [0, 1, 2] (by kernel_rfl) (by kernel_rfl))) (fun w _ => by kernel_rfl) (by kernel_rfl) ?_
  refine E.G.op (.bool true) (fun w => by kernel_rfl) (by kernel_rfl) ?_
  refine E.To.code ?_
  refine E.C.seq ?_
  refine E.C.region ?_
  refine E.G.op (.int .u8 pg) (fun w => by kernel_rfl) (by kernel_rfl) ?_
  refine E.G.op (.int .u8 (Int.tmod pg 4)) (fun w => by kernel_rfl) (by kernel_rfl) ?_
  refine E.G.op (.int .i64 (IntKind.wrap .i64 (Int.tmod pg 4))) (fun w => by kernel_rfl) (by kernel_rfl) ?_
  refine E.G.op (.bool coh) (fun w => by kernel_rfl) (by kernel_rfl) ?_
  refine E.G.op (.pointer (some ⟨g1, 0, none⟩)) (fun w => by kernel_rfl) (by kernel_rfl) ?_
  refine E.G.val (.slice ao0 n0 cap0) (by kernel_rfl) (fun w h => E.run_load h 0 rfl rfl (by kernel_rfl)) ?_
  refine A.G.call (I := Nat × Nat) (D := fun i2 => True) (V := fun i2 => .tuple #[.agg #[.pointer (some ⟨i2.1, 0, none⟩), .pointer (some ⟨i2.2, 0, none⟩)], .bool true]) (q := fun i2 => [A.facts (M.byF ad0 n0 q0), M.It i2.1 ((M.V.new (M.np (IntKind.wrap .i64 (Int.tmod pg 4))) coh).beg q0 (M.bc n0 (IntKind.wrap .i64 (Int.tmod pg 4)))) ([]), R.It i2.2 ((M.V.new (M.np (IntKind.wrap .i64 (Int.tmod pg 4))) coh).beg q0 (M.bc n0 (IntKind.wrap .i64 (Int.tmod pg 4))))]) [A.blk g1 ([.slice ao0 n0 cap0, .slice ao1 n1 cap1]), A.facts (M.opF ad1 n1 q1)] (fun i2 => [(g1, [.slice ao0 n0 cap0, .slice ao1 n1 cap1])]) (fun i2 => [M.It i2.1 ((M.V.new (M.np (IntKind.wrap .i64 (Int.tmod pg 4))) coh).beg q0 (M.bc n0 (IntKind.wrap .i64 (Int.tmod pg 4)))) ([]), R.It i2.2 ((M.V.new (M.np (IntKind.wrap .i64 (Int.tmod pg 4))) coh).beg q0 (M.bc n0 (IntKind.wrap .i64 (Int.tmod pg 4)))), A.facts (M.byF ad0 n0 q0), A.facts (M.opF ad1 n1 q1)]) (Begin (it := A.facts (M.byF ad0 n0 q0)) (ao := ao0) (ad := ad0) (n := n0) (cap := cap0) (q := q0) (IntKind.wrap .i64 (Int.tmod pg 4)) coh (by first | exact .inr (M.tm4 hpg) | exact .inr (by (first | assumption | ((try simp only [Bool.or_eq_false_iff, Bool.or_eq_true, Bool.and_eq_true, Bool.and_eq_false_iff, Bool.not_eq_eq_eq_not, Bool.not_true, Bool.not_false, decide_eq_true_eq, decide_eq_false_iff_not, ge_iff_le, gt_iff_lt] at *); omega)))) hao0 M.byF_hit) (by kernel_rfl) (A.pm [1, 0, 2] (by kernel_rfl) (by kernel_rfl)) (fun i2 => A.pm [3, 1, 2, 0, 4] (by kernel_rfl) (by kernel_rfl)) (fun w _ => by kernel_rfl) (by kernel_rfl) (fun i2 hd3 => ?_)
  refine E.G.op (.tuple #[.agg #[.pointer (some ⟨i2.1, 0, none⟩), .pointer (some ⟨i2.2, 0, none⟩)], .bool true]) (fun w => by kernel_rfl) (by kernel_rfl) ?_
  refine E.G.op (.agg #[.pointer (some ⟨i2.1, 0, none⟩), .pointer (some ⟨i2.2, 0, none⟩)]) (fun w => by kernel_rfl) (by kernel_rfl) ?_
  refine E.G.op (.bool true) (fun w => by kernel_rfl) (by kernel_rfl) ?_
  refine E.G.new (fun g => .pointer (some ⟨g, 0, none⟩)) [.pointer none, .pointer none] 44 (fun w => by kernel_rfl) (by kernel_rfl) (fun g4 => ?_)
  refine E.G.store 0 [.pointer (some ⟨i2.1, 0, none⟩), .pointer (some ⟨i2.2, 0, none⟩)] rfl rfl (by kernel_rfl) (by kernel_rfl) ?_
  refine E.G.op (.bool true) (fun w => by kernel_rfl) (by kernel_rfl) ?_
  refine E.To.code ?_
  refine E.C.weak [(5, .pointer (some ⟨g1, 0, none⟩)), (6, .bool false), (7, .bool true), (8, .pointer (some ⟨g4, 0, none⟩)), (9, .bool true)] [(g4, [.pointer (some ⟨i2.1, 0, none⟩), .pointer (some ⟨i2.2, 0, none⟩)]), (g1, [.slice ao0 n0 cap0, .slice ao1 n1 cap1])] ⟨by kernel_rfl, by kernel_rfl⟩ (List.Sublist.refl _) ?_
  refine E.C.seq ?_
  refine E.C.region ?_
  refine E.G.op (.bool true) (fun w => by kernel_rfl) (by kernel_rfl) ?_
  refine E.G.op (.bool true) (fun w => by kernel_rfl) (by kernel_rfl) ?_
  refine E.G.op (.bool true) (fun w => by kernel_rfl) (by kernel_rfl) ?_
  refine E.G.op (.bool true) (fun w => by kernel_rfl) (by kernel_rfl) ?_
  refine E.G.op (.bool true) (fun w => by kernel_rfl) (by kernel_rfl) ?_
  refine E.G.val (.agg #[.pointer (some ⟨i2.1, 0, none⟩), .pointer (some ⟨i2.2, 0, none⟩)]) (by kernel_rfl) (fun w h => E.run_load h 0 rfl rfl (by kernel_rfl)) ?_
  refine E.G.op (.pointer (some ⟨g1, 1, none⟩)) (fun w => by kernel_rfl) (by kernel_rfl) ?_
  refine E.G.val (.slice ao1 n1 cap1) (by kernel_rfl) (fun w h => E.run_load h 1 rfl rfl (by kernel_rfl)) ?_
  refine A.G.call (I := Unit) (D := fun _ => True) (V := fun _ => .bool true) (q := fun _ => [A.facts (M.opF ad1 n1 q1), M.It i2.1 (((M.V.new (M.np (IntKind.wrap .i64 (Int.tmod pg 4))) coh).beg q0 (M.bc n0 (IntKind.wrap .i64 (Int.tmod pg 4)))).plays q1 (Nat.min n1 40)) ([]), R.It i2.2 (((M.V.new (M.np (IntKind.wrap .i64 (Int.tmod pg 4))) coh).beg q0 (M.bc n0 (IntKind.wrap .i64 (Int.tmod pg 4)))).plays q1 (Nat.min n1 40))]) [A.blk g4 ([.pointer (some ⟨i2.1, 0, none⟩), .pointer (some ⟨i2.2, 0, none⟩)]), A.blk g1 ([.slice ao0 n0 cap0, .slice ao1 n1 cap1]), A.facts (M.byF ad0 n0 q0)] (fun _ => [(g4, [.pointer (some ⟨i2.1, 0, none⟩), .pointer (some ⟨i2.2, 0, none⟩)]), (g1, [.slice ao0 n0 cap0, .slice ao1 n1 cap1])]) (fun _ => [M.It i2.1 (((M.V.new (M.np (IntKind.wrap .i64 (Int.tmod pg 4))) coh).beg q0 (M.bc n0 (IntKind.wrap .i64 (Int.tmod pg 4)))).plays q1 (Nat.min n1 40)) ([]), R.It i2.2 (((M.V.new (M.np (IntKind.wrap .i64 (Int.tmod pg 4))) coh).beg q0 (M.bc n0 (IntKind.wrap .i64 (Int.tmod pg 4)))).plays q1 (Nat.min n1 40)), A.facts (M.byF ad0 n0 q0), A.facts (M.opF ad1 n1 q1)]) (Play (m := i2.1) (r := i2.2) (V := ((M.V.new (M.np (IntKind.wrap .i64 (Int.tmod pg 4))) coh).beg q0 (M.bc n0 (IntKind.wrap .i64 (Int.tmod pg 4))))) (ao := ao1) (ad := ad1) (n := n1) (cap := cap1) (q := q1) hao1) (by kernel_rfl) (A.pm [5, 2, 3, 0, 1, 4] (by kernel_rfl) (by kernel_rfl)) (fun _ => A.pm [3, 4, 1, 2, 5, 0] (by kernel_rfl) (by kernel_rfl)) (fun w _ => by kernel_rfl) (by kernel_rfl) (fun _ hd5 => ?_)
  refine E.G.op (.bool true) (fun w => by kernel_rfl) (by kernel_rfl) ?_
  refine E.G.op (.bool true) (fun w => by kernel_rfl) (by kernel_rfl) ?_
  refine E.G.val (.agg #[.pointer (some ⟨i2.1, 0, none⟩), .pointer (some ⟨i2.2, 0, none⟩)]) (by kernel_rfl) (fun w h => E.run_load h 0 rfl rfl (by kernel_rfl)) ?_
  refine A.G.call (I := Unit) (D := fun _ => True) (V := fun _ => .bool true) (q := fun _ => [M.It i2.1 (((M.V.new (M.np (IntKind.wrap .i64 (Int.tmod pg 4))) coh).beg q0 (M.bc n0 (IntKind.wrap .i64 (Int.tmod pg 4)))).plays q1 (Nat.min n1 40)) ([]), R.It i2.2 (((M.V.new (M.np (IntKind.wrap .i64 (Int.tmod pg 4))) coh).beg q0 (M.bc n0 (IntKind.wrap .i64 (Int.tmod pg 4)))).plays q1 (Nat.min n1 40))]) [A.blk g4 ([.pointer (some ⟨i2.1, 0, none⟩), .pointer (some ⟨i2.2, 0, none⟩)]), A.blk g1 ([.slice ao0 n0 cap0, .slice ao1 n1 cap1]), A.facts (M.byF ad0 n0 q0), A.facts (M.opF ad1 n1 q1)] (fun _ => [(g4, [.pointer (some ⟨i2.1, 0, none⟩), .pointer (some ⟨i2.2, 0, none⟩)]), (g1, [.slice ao0 n0 cap0, .slice ao1 n1 cap1])]) (fun _ => [M.It i2.1 (((M.V.new (M.np (IntKind.wrap .i64 (Int.tmod pg 4))) coh).beg q0 (M.bc n0 (IntKind.wrap .i64 (Int.tmod pg 4)))).plays q1 (Nat.min n1 40)) ([]), R.It i2.2 (((M.V.new (M.np (IntKind.wrap .i64 (Int.tmod pg 4))) coh).beg q0 (M.bc n0 (IntKind.wrap .i64 (Int.tmod pg 4)))).plays q1 (Nat.min n1 40)), A.facts (M.byF ad0 n0 q0), A.facts (M.opF ad1 n1 q1)]) (Same (m := i2.1) (r := i2.2) (V := (((M.V.new (M.np (IntKind.wrap .i64 (Int.tmod pg 4))) coh).beg q0 (M.bc n0 (IntKind.wrap .i64 (Int.tmod pg 4)))).plays q1 (Nat.min n1 40)))) (by kernel_rfl) (A.pm [2, 3, 0, 1, 4, 5] (by kernel_rfl) (by kernel_rfl)) (fun _ => A.pm [2, 3, 0, 1, 4, 5] (by kernel_rfl) (by kernel_rfl)) (fun w _ => by kernel_rfl) (by kernel_rfl) (fun _ hd6 => ?_)
  refine E.G.op (.bool true) (fun w => by kernel_rfl) (by kernel_rfl) ?_
  refine E.G.op (.bool true) (fun w => by kernel_rfl) (by kernel_rfl) ?_
  refine E.To.code ?_
  refine E.C.weak [(6, .bool true)] [] ⟨by kernel_rfl, by kernel_rfl⟩ (List.nil_sublist _) ?_
  refine E.C.ret (E.To.body (fn := Try.f8) [.bool true] ?_ ?_)
  · exact ⟨⟨by kernel_rfl, by kernel_rfl⟩, trivial⟩
  · intro w h
    exact ⟨rfl, h.ch.bel (fun x hx => (A.no2 hh x hx).elim)⟩
end Go.Proofs.Ytdjjjikokfadiaa

/- An argument that is an array of two integers is opened into its two integers; no condition but that it reads as one. -/
namespace Go.Proofs.Ytdjjjikokfadiaa
set_option linter.unusedVariables false
set_option linter.unusedSimpArgs false
open Go.ChangeShapes Go.WideShapes Go.ChangeAt Go.RowKit
open Go.ChangeMaps (open_string shut_string)
theorem own : ownKnob Try.prog.godebug = none := by kernel_rfl
theorem laidOut : laidOutB Try.prog = true := by kernel_rfl
theorem open_two {H : Type} {enc : TypeId × Value → H} {P : Program} {w : World} {base : Nat} {spare : Nat → Bool} {held : Bool} {r : Reach} {b0 : Nat} {t e : TypeId} {k : IntKind} {v : Value} {d : DataW H} {ps : List MemPlace}
    (ht : P.underlying t = some (.array 2 e)) (he : P.underlying e = some (.int k)) (hc : P.cellsOf e = 1) (hct : P.cellsOf t = 2) (hval : Value.okWide P w r b0 t v) (hd : DataW.Trod enc P w base spare held t v d ps) :
    ∃ a b, v = .agg #[.int k a, .int k b] ∧ (Lit.int k a).wf = true ∧ (Lit.int k b).wf = true := by
  obtain ⟨fuel, hf⟩ := hd
  have hv : ∃ cs, v = .agg cs ∧ cs.size = P.cellsOf t ∧ Row.okWide P w r b0 t cs := by
    unfold Value.okWide at hval; rw [ht] at hval; exact hval
  obtain ⟨cs, rfl, hs, _⟩ := hv
  obtain ⟨xs, m, _, _, hl, hx, hel⟩ := DataW.trod_array ht hf
  rw [hct] at hs
  have hs2 : cs.toList.length = 2 := by simpa using hs
  obtain ⟨x, y, hxy⟩ : ∃ x y, cs.toList = [x, y] := by
    match h : cs.toList, hs2 with
    | [x, y], _ => exact ⟨x, y, rfl⟩
  have hcs : cs = #[x, y] := by cases cs; simp_all
  subst hcs
  have h0 := hel 0 (by omega)
  have h1 := hel 1 (by omega)
  rw [hc] at h0 h1
  rw [List.getElem?_eq_getElem (by omega)] at h0 h1
  obtain ⟨a, ea, _, wa⟩ := DataW.trod_int he h0
  obtain ⟨b, eb, _, wb⟩ := DataW.trod_int he h1
  simp [Value.cells] at ea eb
  subst ea; subst eb
  exact ⟨a, b, rfl, wa, wb⟩
end Go.Proofs.Ytdjjjikokfadiaa

/- Arguments that are rows of integers, or structs of integers, are opened into their integers; a string within the reach. -/
namespace Go.Proofs.Ytdjjjikokfadiaa
set_option linter.unusedVariables false
set_option linter.unusedSimpArgs false
open Go.Joins Go.ChangeShapes Go.WideShapes Go.ChangeAt Go.RowKit Go.Deep
theorem open_row {H : Type} {enc : TypeId × Value → H} {P : Program} {w : World} {base : Nat} {spare : Nat → Bool} {held : Bool} {r : Reach} {b0 : Nat} {t e : TypeId} {k : IntKind} {n : Nat} {v : Value} {d : DataW H} {ps : List MemPlace}
    (ht : P.underlying t = some (.array n e)) (he : P.underlying e = some (.int k)) (hc : P.cellsOf e = 1) (hct : P.cellsOf t = n) (hval : Value.okWide P w r b0 t v) (hd : DataW.Trod enc P w base spare held t v d ps) :
    ∃ l : List Int, l.length = n ∧ v = .agg (l.map (.int k)).toArray ∧ ∀ x ∈ l, (Lit.int k x).wf = true := by
  obtain ⟨fuel, hf⟩ := hd
  have hv : ∃ cs, v = .agg cs ∧ cs.size = P.cellsOf t ∧ Row.okWide P w r b0 t cs := by
    unfold Value.okWide at hval; rw [ht] at hval; exact hval
  obtain ⟨cs, rfl, hs, _⟩ := hv
  obtain ⟨xs, m, _, _, hl, hx, hel⟩ := DataW.trod_array ht hf
  rw [hct] at hs
  have key : ∀ i, i < n → ∃ a, cs[i]? = some (.int k a) ∧ (Lit.int k a).wf = true := by
    intro i hi
    have h0 := hel i hi
    rw [hc, Nat.mul_one, List.getElem?_eq_getElem (by omega)] at h0
    obtain ⟨a, ea, _, wa⟩ := DataW.trod_int he h0
    refine ⟨a, ?_, wa⟩
    have hsz : i < cs.size := by omega
    have h2 : (cs.toList.drop i).take 1 = [cs[i]] := by
      rw [List.drop_eq_getElem_cons (by simpa using hsz)]; simp
    have h3 : (cs.toList.drop i).take 1 = [.int k a] := ea
    rw [h2] at h3
    rw [Array.getElem?_eq_getElem hsz]
    exact congrArg some (List.cons.inj h3).1
  have key2 : ∃ f : Nat → Int, ∀ i, i < n → cs[i]? = some (.int k (f i)) ∧ (Lit.int k (f i)).wf = true := by
    refine ⟨fun i => if h : i < n then (key i h).choose else 0, fun i h => ?_⟩
    have := (key i h).choose_spec
    simp only [h, dif_pos]
    exact this
  obtain ⟨f, hf⟩ := key2
  refine ⟨(List.range n).map f, by simp, ?_, fun x hx => ?_⟩
  · congr 1
    apply Array.ext_getElem?
    intro i
    by_cases hi : i < n
    · rw [(hf i hi).1]; simp [List.getElem?_range, hi]
    · rw [Array.getElem?_eq_none (by omega)]; simp [hi]
  · obtain ⟨i, hi, rfl⟩ := List.mem_map.1 hx
    exact (hf i (List.mem_range.1 hi)).2
theorem open_five {H : Type} {enc : TypeId × Value → H} {P : Program} {w : World} {base : Nat} {spare : Nat → Bool} {held : Bool} {r : Reach} {b0 : Nat} {t e : TypeId} {k : IntKind} {v : Value} {d : DataW H} {ps : List MemPlace}
    (ht : P.underlying t = some (.array 5 e)) (he : P.underlying e = some (.int k)) (hc : P.cellsOf e = 1) (hct : P.cellsOf t = 5) (hval : Value.okWide P w r b0 t v) (hd : DataW.Trod enc P w base spare held t v d ps) :
    ∃ a b c x y : Int, v = .agg #[.int k a, .int k b, .int k c, .int k x, .int k y] ∧ (Lit.int k a).wf = true ∧ (Lit.int k b).wf = true ∧ (Lit.int k c).wf = true ∧ (Lit.int k x).wf = true ∧ (Lit.int k y).wf = true := by
  obtain ⟨l, hl, rfl, hw⟩ := open_row ht he hc hct hval hd
  match l, hl with
  | [a, b, c, x, y], _ => exact ⟨a, b, c, x, y, rfl, hw _ (by simp), hw _ (by simp), hw _ (by simp), hw _ (by simp), hw _ (by simp)⟩
theorem open_fields {H : Type} {enc : TypeId × Value → H} {P : Program} {w : World} {base : Nat} {spare : Nat → Bool} {held : Bool} {r : Reach} {b0 : Nat} {t : TypeId} {fs : Array Field} {v : Value} {d : DataW H} {ps : List MemPlace}
    (ht : P.underlying t = some (.struct fs)) (hone : oneCellFields P fs = true) (hC : P.cellsOf t = fs.size) (hval : Value.okWide P w r b0 t v) (hd : DataW.Trod enc P w base spare held t v d ps) :
    ∃ cs : Array Value, v = .agg cs ∧ cs.size = fs.size ∧ ∀ (i : Nat) (f : Field) (k : IntKind), fs[i]? = some f → P.underlying f.type = some (.int k) → ∃ n, cs[i]? = some (.int k n) ∧ (Lit.int k n).wf = true := by
  obtain ⟨cs, rfl, hsz⟩ := okWide_struct ht hval
  obtain ⟨fuel, hf⟩ := hd
  obtain ⟨xs, n, _, hx, _, hlen, hg⟩ := DataW.trod_struct ht hf
  refine ⟨cs, rfl, hsz.trans hC, fun i f k hi hk => ?_⟩
  obtain ⟨o, kk⟩ := hone_of hone i f hi
  have h1 := hg i f hi
  have hil : i < fs.size := (Array.getElem?_eq_some_iff.1 hi).1
  rw [o, kk, List.getElem?_eq_getElem (by omega)] at h1
  obtain ⟨a, ea, _, wa⟩ := DataW.trod_int hk h1
  refine ⟨a, ?_, wa⟩
  have hi2 : i < cs.size := by have := hsz.trans hC; omega
  have h2 : (cs.toList.drop i).take 1 = [cs[i]] := by
    rw [List.drop_eq_getElem_cons (by simpa using hi2)]; simp
  have h3 : (cs.toList.drop i).take 1 = [.int k a] := ea
  rw [h2] at h3
  rw [Array.getElem?_eq_getElem hi2]
  exact congrArg some (List.cons.inj h3).1
theorem array7 {α : Type} {cs : Array α} (h : cs.size = 7) : ∃ a b c d e f g, cs = #[a, b, c, d, e, f, g] := by
  obtain ⟨l⟩ := cs
  match l, h with
  | [a, b, c, d, e, f, g], _ => exact ⟨a, b, c, d, e, f, g, rfl⟩
theorem open_seven {H : Type} {enc : TypeId × Value → H} {P : Program} {w : World} {base : Nat} {spare : Nat → Bool} {held : Bool} {r : Reach} {b0 : Nat} {t : TypeId} {f0 f1 f2 f3 f4 f5 f6 : Field} {k0 k1 k2 k3 k4 k5 k6 : IntKind} {v : Value} {d : DataW H} {ps : List MemPlace}
    (ht : P.underlying t = some (.struct #[f0, f1, f2, f3, f4, f5, f6])) (hone : oneCellFields P #[f0, f1, f2, f3, f4, f5, f6] = true) (hC : P.cellsOf t = 7)
    (h0 : P.underlying f0.type = some (.int k0)) (h1 : P.underlying f1.type = some (.int k1)) (h2 : P.underlying f2.type = some (.int k2)) (h3 : P.underlying f3.type = some (.int k3)) (h4 : P.underlying f4.type = some (.int k4)) (h5 : P.underlying f5.type = some (.int k5)) (h6 : P.underlying f6.type = some (.int k6))
    (hval : Value.okWide P w r b0 t v) (hd : DataW.Trod enc P w base spare held t v d ps) :
    ∃ n0 n1 n2 n3 n4 n5 n6 : Int, v = .agg #[.int k0 n0, .int k1 n1, .int k2 n2, .int k3 n3, .int k4 n4, .int k5 n5, .int k6 n6] ∧ (Lit.int k5 n5).wf = true := by
  obtain ⟨cs, rfl, hs, hg⟩ := open_fields ht hone hC hval hd
  obtain ⟨a0, a1, a2, a3, a4, a5, a6, rfl⟩ := array7 hs
  obtain ⟨n0, e0, -⟩ := hg 0 f0 k0 rfl h0
  obtain ⟨n1, e1, -⟩ := hg 1 f1 k1 rfl h1
  obtain ⟨n2, e2, -⟩ := hg 2 f2 k2 rfl h2
  obtain ⟨n3, e3, -⟩ := hg 3 f3 k3 rfl h3
  obtain ⟨n4, e4, -⟩ := hg 4 f4 k4 rfl h4
  obtain ⟨n5, e5, w5⟩ := hg 5 f5 k5 rfl h5
  obtain ⟨n6, e6, -⟩ := hg 6 f6 k6 rfl h6
  obtain rfl := Option.some.inj e0
  obtain rfl := Option.some.inj e1
  obtain rfl := Option.some.inj e2
  obtain rfl := Option.some.inj e3
  obtain rfl := Option.some.inj e4
  obtain rfl := Option.some.inj e5
  obtain rfl := Option.some.inj e6
  exact ⟨n0, n1, n2, n3, n4, n5, n6, rfl, w5⟩
end Go.Proofs.Ytdjjjikokfadiaa

/- Arguments of the laws of mem: slices of operations, of bytes, structs of both. No condition. -/
namespace Go.Proofs.Ytdjjjikokfadiaa
set_option linter.unusedVariables false
set_option linter.unusedSimpArgs false
open Go.Joins Go.ChangeShapes Go.WideShapes Go.ChangeAt Go.RowKit Go.Deep
theorem M.take1 {l : List Value} {i : Nat} {v : Value} (h : (l.drop i).take 1 = [v]) : l[i]? = some v := by
  have h1 := congrArg (fun (l : List Value) => l[0]?) h
  simpa using h1
section
variable {H : Type} {enc : TypeId × Value → H} {P : Program} {w : World} {base : Nat} {spare : Nat → Bool} {held : Bool}
theorem M.open_bytes {t e : TypeId} {fuel : Nat} {cs : List Value} {x : DataW H × List MemPlace} (ht : P.underlying t = some (.slice e)) (he : P.underlying e = some (.int .u8)) (hc : P.cellsOf e = 1) (hf : DataW.trod enc P w base spare held fuel t cs = some x) :
    ∃ ao ad n cap q, cs = [.slice ao n cap] ∧ (0 < n → ao = some ad) ∧ ∀ a v, M.byF ad n q a v → w.cell? a = some v := by
  rcases open_slice ht hf with ⟨hcs, _⟩ | ⟨ad, len', cap', m, n, D, Pl, hcs, hb, hl, hm, hmm, _, hi⟩
  · exact ⟨none, ⟨0, 0, none⟩, 0, 0, fun _ => 0, hcs, fun h => absurd h (by omega), fun a v ⟨i, hi, _⟩ => absurd hi (by omega)⟩
  · have key : ∀ i, i < len' → ∃ z, w.cell? (ad.add i) = some (.int .u8 z) := by
      intro i hil
      obtain ⟨cs', hc', ht'⟩ := hi i (by rw [hmm]; split <;> omega)
      rw [hc, Nat.mul_one] at hc'
      obtain ⟨_, hlen, hat⟩ := World.cells?_some hc'
      obtain ⟨z, ez, _, _⟩ := DataW.trod_int he ht'
      have h0 := hat 0 (by omega)
      rw [ez] at h0
      refine ⟨z, ?_⟩
      have e : (ad.add i).add 0 = ad.add i := by simp [Addr.add]
      rw [e] at h0
      simpa using h0
    exact ⟨some ad, ad, len', cap', fun i => if h : i < len' then (key i h).choose else 0, hcs, fun _ => rfl, fun a v ⟨i, hil, ha, hv⟩ => by
      subst ha; subst hv
      have := (key i hil).choose_spec
      simp only [hil, dif_pos]; exact this⟩
theorem M.open_ops {t e : TypeId} {f0 f1 f2 f3 f4 f5 : Field} {fuel : Nat} {cs : List Value} {x : DataW H × List MemPlace} (ht : P.underlying t = some (.slice e)) (he : P.underlying e = some (.struct #[f0, f1, f2, f3, f4, f5])) (hone : oneCellFields P #[f0, f1, f2, f3, f4, f5] = true) (hc : P.cellsOf e = 6)
    (h0 : P.underlying f0.type = some (.int .u8)) (h1 : P.underlying f1.type = some (.int .u32)) (h2 : P.underlying f2.type = some (.int .u32)) (h3 : P.underlying f3.type = some (.int .i64)) (h4 : P.underlying f4.type = some .string) (h5 : P.underlying f5.type = some (.int .u8)) (hf : DataW.trod enc P w base spare held fuel t cs = some x) :
    ∃ ao ad n cap q, cs = [.slice ao n cap] ∧ (0 < n → ao = some ad) ∧ ∀ a v, M.opF ad n q a v → w.cell? a = some v := by
  rcases open_slice ht hf with ⟨hcs, _⟩ | ⟨ad, len', cap', m, n, D, Pl, hcs, hb, hl, hm, hmm, _, hi⟩
  · exact ⟨none, ⟨0, 0, none⟩, 0, 0, fun _ => ⟨0, 0, 0, 0, ByteArray.empty, 0, by decide, by decide⟩, hcs, fun h => absurd h (by omega), fun a v ⟨i, j, hi, _⟩ => absurd hi (by omega)⟩
  · have key : ∀ i, i < len' → ∃ p : M.Op, ∀ j v, p.cells[j]? = some v → w.cell? ((ad.add (i * 6)).add j) = some v := by
      intro i hil
      obtain ⟨cs', hc', ht'⟩ := hi i (by rw [hmm]; split <;> omega)
      rw [hc] at hc'
      obtain ⟨_, hlen, hat⟩ := World.cells?_some hc'
      obtain ⟨xs, mm, _, hx, _, hxl, hg⟩ := DataW.trod_struct he ht'
      have fld : ∀ k f, #[f0, f1, f2, f3, f4, f5][k]? = some f → ∃ y n, DataW.trod enc P w base spare held n f.type ((cs'.drop k).take 1) = some y := by
        intro k f hk
        obtain ⟨o, kk⟩ := hone_of hone k f hk
        have hh := hg k f hk
        have hkl : k < 6 := (Array.getElem?_eq_some_iff.1 hk).1
        have hxl' : xs.length = 6 := hxl
        rw [o, kk, List.getElem?_eq_getElem (by omega)] at hh
        exact ⟨_, _, hh⟩
      obtain ⟨y0, m0, t0⟩ := fld 0 f0 rfl
      obtain ⟨y1, m1, t1⟩ := fld 1 f1 rfl
      obtain ⟨y2, m2, t2⟩ := fld 2 f2 rfl
      obtain ⟨y3, m3, t3⟩ := fld 3 f3 rfl
      obtain ⟨y4, m4, t4⟩ := fld 4 f4 rfl
      obtain ⟨y5, m5, t5⟩ := fld 5 f5 rfl
      obtain ⟨a0, e0, _, _⟩ := DataW.trod_int h0 t0
      obtain ⟨a1, e1, _, w1⟩ := DataW.trod_int h1 t1
      obtain ⟨a2, e2, _, w2⟩ := DataW.trod_int h2 t2
      obtain ⟨a3, e3, _, _⟩ := DataW.trod_int h3 t3
      obtain ⟨a4, e4, _, _⟩ := DataW.trod_string h4 t4
      obtain ⟨a5, e5, _, _⟩ := DataW.trod_int h5 t5
      have b1 := bounds_u32 w1
      have b2 := bounds_u32 w2
      obtain ⟨c1, rfl⟩ := Int.eq_ofNat_of_zero_le b1.1
      obtain ⟨c2, rfl⟩ := Int.eq_ofNat_of_zero_le b2.1
      refine ⟨⟨a0, c1, c2, a3, a4, a5, by have := b1.2; omega, by have := b2.2; omega⟩, fun j v hj => ?_⟩
      have at' : ∀ j u, (cs'.drop j).take 1 = [u] → j < 6 → w.cell? ((ad.add (i * 6)).add j) = some u := fun j u hu hj => by
        rw [hat j hj]; exact M.take1 hu
      match j, hj with
      | 0, hj => exact (Option.some.inj hj) ▸ at' 0 _ e0 (by decide)
      | 1, hj => exact (Option.some.inj hj) ▸ at' 1 _ e1 (by decide)
      | 2, hj => exact (Option.some.inj hj) ▸ at' 2 _ e2 (by decide)
      | 3, hj => exact (Option.some.inj hj) ▸ at' 3 _ e3 (by decide)
      | 4, hj => exact (Option.some.inj hj) ▸ at' 4 _ e4 (by decide)
      | 5, hj => exact (Option.some.inj hj) ▸ at' 5 _ e5 (by decide)
      | k + 6, hj => cases hj
    exact ⟨some ad, ad, len', cap', fun i => if h : i < len' then (key i h).choose else ⟨0, 0, 0, 0, ByteArray.empty, 0, by decide, by decide⟩, hcs, fun _ => rfl, fun a v ⟨i, j, hil, ha, hv⟩ => by
      subst ha
      have := (key i hil).choose_spec j v (by simpa only [hil, dif_pos] using hv)
      exact this⟩
theorem M.arg_ops {r : Reach} {b0 : Nat} {t e : TypeId} {f0 f1 f2 f3 f4 f5 : Field} {v : Value} {d : DataW H} {ps : List MemPlace} (ht : P.underlying t = some (.slice e)) (he : P.underlying e = some (.struct #[f0, f1, f2, f3, f4, f5])) (hone : oneCellFields P #[f0, f1, f2, f3, f4, f5] = true) (hc : P.cellsOf e = 6)
    (h0 : P.underlying f0.type = some (.int .u8)) (h1 : P.underlying f1.type = some (.int .u32)) (h2 : P.underlying f2.type = some (.int .u32)) (h3 : P.underlying f3.type = some (.int .i64)) (h4 : P.underlying f4.type = some .string) (h5 : P.underlying f5.type = some (.int .u8)) (hval : Value.okWide P w r b0 t v) (hd : DataW.Trod enc P w base spare held t v d ps) :
    ∃ ao ad n cap q, v = .slice ao n cap ∧ (0 < n → ao = some ad) ∧ ∀ a u, M.opF ad n q a u → w.cell? a = some u := by
  obtain ⟨fuel, hf⟩ := hd
  obtain ⟨a, len, cap, rfl⟩ := okWide_slice ht hval
  obtain ⟨ao, ad, n, cp, q, e1, e2, e3⟩ := M.open_ops ht he hone hc h0 h1 h2 h3 h4 h5 hf
  exact ⟨ao, ad, n, cp, q, by simpa [Value.cells] using e1, e2, e3⟩
theorem M.arg_two {r : Reach} {b0 : Nat} {t e u : TypeId} {g0 g1 f0 f1 f2 f3 f4 f5 : Field} {v : Value} {d : DataW H} {ps : List MemPlace} (hs : P.underlying t = some (.struct #[g0, g1])) (hone2 : oneCellFields P #[g0, g1] = true) (hcs : P.cellsOf t = 2) (hu : P.underlying g0.type = some (.slice u)) (hu8 : P.underlying u = some (.int .u8)) (hcu : P.cellsOf u = 1)
    (ht : P.underlying g1.type = some (.slice e)) (he : P.underlying e = some (.struct #[f0, f1, f2, f3, f4, f5])) (hone : oneCellFields P #[f0, f1, f2, f3, f4, f5] = true) (hc : P.cellsOf e = 6)
    (h0 : P.underlying f0.type = some (.int .u8)) (h1 : P.underlying f1.type = some (.int .u32)) (h2 : P.underlying f2.type = some (.int .u32)) (h3 : P.underlying f3.type = some (.int .i64)) (h4 : P.underlying f4.type = some .string) (h5 : P.underlying f5.type = some (.int .u8)) (hval : Value.okWide P w r b0 t v) (hd : DataW.Trod enc P w base spare held t v d ps) :
    ∃ ao ad n cap q bo bd m cbp p, v = .agg #[.slice ao n cap, .slice bo m cbp] ∧ (0 < n → ao = some ad) ∧ (∀ a x, M.byF ad n q a x → w.cell? a = some x) ∧ (0 < m → bo = some bd) ∧ ∀ a x, M.opF bd m p a x → w.cell? a = some x := by
  obtain ⟨cs, rfl, hsz⟩ := okWide_struct hs hval
  obtain ⟨fuel, hf⟩ := hd
  obtain ⟨c0, c1, rfl⟩ := array2 (hsz.trans hcs)
  obtain ⟨y0, y1, n, _, hl, t0, t1⟩ := trod_struct2 hs hf
  obtain ⟨o0, k0⟩ := hone_of hone2 0 g0 rfl
  obtain ⟨o1, k1⟩ := hone_of hone2 1 g1 rfl
  rw [o0, k0] at t0
  rw [o1, k1] at t1
  obtain ⟨ao, ad, n1, cp, q, e1, e2, e3⟩ := M.open_bytes hu hu8 hcu t0
  obtain ⟨bo, bd, m1, cq, p, i1, i2, i3⟩ := M.open_ops ht he hone hc h0 h1 h2 h3 h4 h5 t1
  have e1 : [c0] = [.slice ao n1 cp] := e1
  have i1 : [c1] = [.slice bo m1 cq] := i1
  refine ⟨ao, ad, n1, cp, q, bo, bd, m1, cq, p, ?_, e2, e3, i2, i3⟩
  rw [(List.cons.inj e1).1, (List.cons.inj i1).1]
end
end Go.Proofs.Ytdjjjikokfadiaa
