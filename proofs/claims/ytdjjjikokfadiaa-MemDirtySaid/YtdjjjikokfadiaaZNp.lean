/- Walks: MemFetches, printed by wip/eng. No condition but what is named. -/
import Derived.Test.YtdjjjikokfadiaaProg
import Derived.Test.YtdjjjikokfadiaaZNo
namespace Go.Proofs.Ytdjjjikokfadiaa
set_option linter.unusedVariables false
set_option linter.unusedSimpArgs false
open Go.RowKit
theorem M.and9 {a : Nat} (h : a < 4294967296) : bits .and .u32 ((a : Nat) : Int) 511 = ((a % 512 : Nat) : Int) := by
  have e : bits .and .u32 ((a : Nat) : Int) 511 = ((a : Nat) : Int) % 512 := W.and_mask 9 (by decide) _ (by omega) (by omega)
  rw [e]; omega
theorem M.and10 {a : Nat} (h : a < 4294967296) : bits .and .u32 ((a : Nat) : Int) 1023 = ((a % 1024 : Nat) : Int) := by
  have e : bits .and .u32 ((a : Nat) : Int) 1023 = ((a : Nat) : Int) % 1024 := W.and_mask 10 (by decide) _ (by omega) (by omega)
  rw [e]; omega
def M.l400 (s : ByteArray) : Int := (if 400 < ((s.size : Nat) : Int) then 400 else ((s.size : Nat) : Int))
def M.s400 (s : ByteArray) : ByteArray := s.extract 0 (M.l400 s).toNat
theorem M.l400_bd (s : ByteArray) : 0 ≤ M.l400 s ∧ M.l400 s ≤ ((s.size : Nat) : Int) ∧ M.l400 s ≤ 400 := by unfold M.l400; split <;> omega
theorem M.s400_size (s : ByteArray) : (M.s400 s).size < 4294967296 := by
  unfold M.s400
  rw [ByteArray.size_extract]
  have := M.l400_bd s
  omega
theorem M.code_set {V : M.V} (h : V.coh = false) (a : Nat) (v : Int) (x : Nat) : (V.set a v).code x = V.code x := by
  have e : (V.set a v).i = V.i := by
    unfold M.V.set
    split
    · show (if V.coh then _ else V.i) = V.i; rw [h]; rfl
    · rfl
  unfold M.V.code
  rw [R.set_n, e]
theorem M.code_poke {V : M.V} (h : V.coh = false) (a : Nat) (s : ByteArray) (x : Nat) : ∀ c, (V.poke a s c).code x = V.code x
  | 0 => rfl
  | c + 1 => by rw [M.V.poke, M.code_set ((M.poke_coh ..).trans h)]; exact M.code_poke h a s x c
theorem M.code_put {V : M.V} (h : V.coh = false) (a : Nat) (v : Int) (x : Nat) : ∀ c, (V.put a v c).code x = V.code x
  | 0 => rfl
  | c + 1 => by rw [M.V.put, M.code_set ((M.put_coh ..).trans h)]; exact M.code_put h a v x c
theorem M.code_sto {V : M.V} (h : V.coh = false) (a : Nat) (n v : Int) (x : Nat) : (V.sto a n v).code x = V.code x := by
  unfold M.V.sto; split
  · exact M.code_put h a v x _
  · rfl
/-- What the laws do to a memory before they look. -/
def M.fe (W : M.V) (a : Nat) (s : ByteArray) : M.V := (W.poke (a % 512) (M.s400 s) (M.s400 s).size).sto (a % 1024) 4 ((a : Nat) : Int)
theorem M.fe_is {W : M.V} {n : Nat} {c : Bool} (h : M.Is W n c) (a : Nat) (s : ByteArray) : M.Is (M.fe W a s) n c := (h.poke _ _ _).sto _ _ _
theorem M.fe_code {W : M.V} {n : Nat} (h : M.Is W n false) (a : Nat) (s : ByteArray) (x : Nat) : (M.fe W a s).code x = W.code x :=
  (M.code_sto (h.poke _ _ _).2.1 _ _ _ _).trans (M.code_poke h.2.1 _ _ _ _)
theorem M.peek_sync (V : M.V) (p x : Nat) : (V.sync p).peek x = V.peek x := by
  unfold M.V.peek M.V.sync
  split <;> rfl
theorem M.code_syncT {V : M.V} (h : M.Is V 3 false) {p x : Nat} (hx : x < 768) (e : (((x / 256 : Nat) : Int) == ((p : Nat) : Int)) = true) : (V.sync p).code x = (V.sync p).peek x := by
  have e : x / 256 = p := by have : ((x / 256 : Nat) : Int) = ((p : Nat) : Int) := by simpa using e
                             omega
  rw [M.peek_sync]
  unfold M.V.code M.V.peek M.V.sync
  have hn := h.1
  have hp : x / 256 < V.n := by omega
  rw [if_pos (⟨by omega, h.2.1⟩ : p < V.n ∧ V.coh = false)]
  show (if x / 256 < V.n then (if x / 256 = p then V.d (x / 256) (x % 256) else V.i (x / 256) (x % 256)) else 0) = _
  rw [if_pos e]
theorem M.code_syncF {V : M.V} {p x : Nat} (e : (((x / 256 : Nat) : Int) == ((p : Nat) : Int)) = false) : (V.sync p).code x = V.code x := by
  have e : x / 256 ≠ p := by intro k; rw [k] at e; simp at e
  unfold M.V.code M.V.sync
  split
  · show (if x / 256 < V.n then (if x / 256 = p then V.d (x / 256) (x % 256) else V.i (x / 256) (x % 256)) else 0) = _
    rw [if_neg e]
  · rfl
theorem MemFetches_rd (s : ByteArray) (a : Nat) (ha : a < 4294967296) {ao0 : Option Addr} {ad0 : Addr} {n0 cap0 : Nat} {q0 : Nat → M.Op} (hao0 : 0 < n0 → ao0 = some ad0) : A.Rd Try.prog 9 #[.slice ao0 n0 cap0, .string s, .int .u32 ((a : Nat) : Int)] [A.facts (M.opF ad0 n0 q0)] (.bool true) := by
  intro w oo aa hh
  refine E.enter (n := 88) (S := oo) Try.func9 rfl rfl (by kernel_rfl) (A.start (L := []) hh) ?_
  refine E.C.seq ?_
  refine E.C.region ?_
  refine E.G.op (.bool false) (fun w => by kernel_rfl) (by kernel_rfl) ?_
  refine E.To.code ?_
  refine E.C.seq ?_
  refine E.C.region ?_
  refine E.G.call (.bool true) (fun w h => A.call_rd [A.facts (M.opF ad0 n0 q0)] (San) h (by kernel_rfl) (A.pm [0] (by kernel_rfl) (by kernel_rfl))) (fun w _ => by kernel_rfl) (by kernel_rfl) ?_
  refine E.G.op (.bool true) (fun w => by kernel_rfl) (by kernel_rfl) ?_
  refine E.To.code ?_
  refine E.C.seq ?_
  refine E.C.region ?_
  refine E.G.buildSlice [.int .u8 7, .int .u8 7, .int .u8 7] (by kernel_rfl) (by kernel_rfl) (fun g1 => ?_)
  refine A.G.call (I := (Nat × Nat) × M.V) (D := fun i2 => M.Is i2.2 3 false) (V := fun i2 => .tuple #[.agg #[.pointer (some ⟨i2.1.1, 0, none⟩), .pointer (some ⟨i2.1.2, 0, none⟩)], .bool true]) (q := fun i2 => [A.blk g1 ([.int .u8 7, .int .u8 7, .int .u8 7]), M.It i2.1.1 i2.2 ([]), R.It i2.1.2 i2.2]) [A.facts (M.opF ad0 n0 q0)] (fun i2 => [(g1, [.int .u8 7, .int .u8 7, .int .u8 7])]) (fun i2 => [M.It i2.1.1 i2.2 ([]), R.It i2.1.2 i2.2, A.facts (M.opF ad0 n0 q0)]) (Begin2 (it := (A.blk g1 ([.int .u8 7, .int .u8 7, .int .u8 7]))) (ao := (some ⟨g1, 0, none⟩)) (ad := ⟨g1, 0, none⟩) (n := 3) (cap := 3) (q := (fun i => [7, 7, 7].getD i 0)) 3 false 3 rfl (.inr (by decide)) (fun _ => rfl) (M.blk_hit fun i hi => by have : i = 0 ∨ i = 1 ∨ i = 2 := (by omega); rcases this with rfl | rfl | rfl <;> rfl)) (by kernel_rfl) (A.pm [0, 1] (by kernel_rfl) (by kernel_rfl)) (fun i2 => A.pm [0, 1, 2, 3] (by kernel_rfl) (by kernel_rfl)) (fun w _ => by kernel_rfl) (by kernel_rfl) (fun i2 hd3 => ?_)
  refine E.G.op (.tuple #[.agg #[.pointer (some ⟨i2.1.1, 0, none⟩), .pointer (some ⟨i2.1.2, 0, none⟩)], .bool true]) (fun w => by kernel_rfl) (by kernel_rfl) ?_
  refine E.G.op (.agg #[.pointer (some ⟨i2.1.1, 0, none⟩), .pointer (some ⟨i2.1.2, 0, none⟩)]) (fun w => by kernel_rfl) (by kernel_rfl) ?_
  refine E.G.op (.bool true) (fun w => by kernel_rfl) (by kernel_rfl) ?_
  refine E.G.new (fun g => .pointer (some ⟨g, 0, none⟩)) [.pointer none, .pointer none] 44 (fun w => by kernel_rfl) (by kernel_rfl) (fun g4 => ?_)
  refine E.G.store 0 [.pointer (some ⟨i2.1.1, 0, none⟩), .pointer (some ⟨i2.1.2, 0, none⟩)] rfl rfl (by kernel_rfl) (by kernel_rfl) ?_
  refine E.G.op (.bool true) (fun w => by kernel_rfl) (by kernel_rfl) ?_
  refine E.To.code ?_
  refine E.C.seq ?_
  refine E.C.seq ?_
  refine E.C.region ?_
  refine E.G.op (.bool true) (fun w => by kernel_rfl) (by kernel_rfl) ?_
  refine E.G.op (.bool false) (fun w => by kernel_rfl) (by kernel_rfl) ?_
  refine E.G.op (.bool false) (fun w => by kernel_rfl) (by kernel_rfl) ?_
  refine E.G.val (.agg #[.pointer (some ⟨i2.1.1, 0, none⟩), .pointer (some ⟨i2.1.2, 0, none⟩)]) (by kernel_rfl) (fun w h => E.run_load h 0 rfl rfl (by kernel_rfl)) ?_
  refine E.G.op (.slice ao0 n0 cap0) (fun w => by kernel_rfl) (by kernel_rfl) ?_
  refine A.G.call (I := M.V) (D := fun W5 => M.Is W5 3 false) (V := fun W5 => .bool true) (q := fun W5 => [A.facts (M.opF ad0 n0 q0), M.It i2.1.1 W5 ([]), R.It i2.1.2 W5]) [A.blk g4 ([.pointer (some ⟨i2.1.1, 0, none⟩), .pointer (some ⟨i2.1.2, 0, none⟩)]), A.blk g1 ([.int .u8 7, .int .u8 7, .int .u8 7])] (fun W5 => [(g4, [.pointer (some ⟨i2.1.1, 0, none⟩), .pointer (some ⟨i2.1.2, 0, none⟩)]), (g1, [.int .u8 7, .int .u8 7, .int .u8 7])]) (fun W5 => [M.It i2.1.1 W5 ([]), R.It i2.1.2 W5, A.facts (M.opF ad0 n0 q0)]) (Play2 (m := i2.1.1) (r := i2.1.2) (V := i2.2) (ao := ao0) (ad := ad0) (n := n0) (cap := cap0) (q := q0) hao0 hd3) (by kernel_rfl) (A.pm [4, 2, 3, 0, 1] (by kernel_rfl) (by kernel_rfl)) (fun W5 => A.pm [3, 4, 1, 2, 0] (by kernel_rfl) (by kernel_rfl)) (fun w _ => by kernel_rfl) (by kernel_rfl) (fun W5 hd6 => ?_)
  refine E.G.op (.bool false) (fun w => by kernel_rfl) (by kernel_rfl) ?_
  refine E.G.op (.bool false) (fun w => by kernel_rfl) (by kernel_rfl) ?_
  refine E.To.code ?_
  refine E.C.weak [(1, .string s), (2, .int .u32 ((a : Nat) : Int)), (6, .bool false), (7, .bool true), (8, .pointer (some ⟨g4, 0, none⟩)), (27, .bool false)] [(g4, [.pointer (some ⟨i2.1.1, 0, none⟩), .pointer (some ⟨i2.1.2, 0, none⟩)])] ⟨by kernel_rfl, by kernel_rfl⟩ (List.Sublist.cons_cons _ (List.nil_sublist _)) ?_
  refine E.C.condF (by kernel_rfl) (by kernel_rfl) ?_
  refine E.C.skip (E.To.code ?_)
  refine E.C.seq ?_
  refine E.C.region ?_
  refine E.G.op (.pointer (some ⟨g4, 0, none⟩)) (fun w => by kernel_rfl) (by kernel_rfl) ?_
  refine E.G.val (.pointer (some ⟨i2.1.1, 0, none⟩)) (by kernel_rfl) (fun w h => E.run_load h 0 rfl rfl (by kernel_rfl)) ?_
  refine A.G.call (I := Nat) (D := fun m7 => True) (V := fun m7 => .pointer (some ⟨m7, 0, none⟩)) (q := fun m7 => [M.It i2.1.1 W5 ([]), M.It m7 W5 ([])]) [A.blk g4 ([.pointer (some ⟨i2.1.1, 0, none⟩), .pointer (some ⟨i2.1.2, 0, none⟩)]), R.It i2.1.2 W5, A.facts (M.opF ad0 n0 q0)] (fun m7 => [(g4, [.pointer (some ⟨i2.1.1, 0, none⟩), .pointer (some ⟨i2.1.2, 0, none⟩)])]) (fun m7 => [M.It m7 W5 ([]), M.It i2.1.1 W5 ([]), R.It i2.1.2 W5, A.facts (M.opF ad0 n0 q0)]) (A_Snapshot (m := i2.1.1) (V := W5) (xs := [])) (by kernel_rfl) (A.pm [1, 0, 2, 3] (by kernel_rfl) (by kernel_rfl)) (fun m7 => A.pm [2, 1, 0, 3, 4] (by kernel_rfl) (by kernel_rfl)) (fun w _ => by kernel_rfl) (by kernel_rfl) (fun m7 hd8 => ?_)
  refine E.G.op (.pointer (some ⟨m7, 0, none⟩)) (fun w => by kernel_rfl) (by kernel_rfl) ?_
  refine E.To.code ?_
  refine E.C.seq ?_
  refine E.C.held (A.Y [A.blk g4 ([.pointer (some ⟨i2.1.1, 0, none⟩), .pointer (some ⟨i2.1.2, 0, none⟩)]), A.facts (M.opF ad0 n0 q0)]) (by kernel_rfl) ?_
  refine E.H.take 0 (.pointer (some ⟨g4, 0, none⟩)) rfl (by kernel_rfl) (by kernel_rfl) (by kernel_rfl) (fun _ _ _ h => h) (fun w h => A.hpY (p := [A.blk g4 ([.pointer (some ⟨i2.1.1, 0, none⟩), .pointer (some ⟨i2.1.2, 0, none⟩)]), A.facts (M.opF ad0 n0 q0)]) (r := [M.It m7 W5 ([]), M.It i2.1.1 W5 ([]), R.It i2.1.2 W5]) h (by kernel_rfl) (A.pm [0, 4, 1, 2, 3] (by kernel_rfl) (by kernel_rfl))) (.inl ⟨by kernel_rfl, by kernel_rfl, fun w h => by kernel_rfl⟩) (by kernel_rfl) ?_
  refine E.H.take 1 (.pointer (some ⟨i2.1.1, 0, none⟩)) rfl (by kernel_rfl) (by kernel_rfl) (by kernel_rfl) (fun _ _ _ h => h) (fun w h => A.hpY (p := [A.blk g4 ([.pointer (some ⟨i2.1.1, 0, none⟩), .pointer (some ⟨i2.1.2, 0, none⟩)]), A.facts (M.opF ad0 n0 q0)]) (r := [M.It m7 W5 ([]), M.It i2.1.1 W5 ([]), R.It i2.1.2 W5]) h (by kernel_rfl) (A.pm [0, 4, 1, 2, 3] (by kernel_rfl) (by kernel_rfl))) (.inl ⟨by kernel_rfl, by kernel_rfl, fun w h => A.Y.bld h (k := 0) (j := 0) rfl (by kernel_rfl) (by kernel_rfl)⟩) (by kernel_rfl) ?_
  refine E.H.take 2 (.int .u32 ((a : Nat) : Int)) rfl (by kernel_rfl) (by kernel_rfl) (by kernel_rfl) (fun _ _ _ h => h) (fun w h => A.hpY (p := [A.blk g4 ([.pointer (some ⟨i2.1.1, 0, none⟩), .pointer (some ⟨i2.1.2, 0, none⟩)]), A.facts (M.opF ad0 n0 q0)]) (r := [M.It m7 W5 ([]), M.It i2.1.1 W5 ([]), R.It i2.1.2 W5]) h (by kernel_rfl) (A.pm [0, 4, 1, 2, 3] (by kernel_rfl) (by kernel_rfl))) (.inl ⟨by kernel_rfl, by kernel_rfl, fun w h => by kernel_rfl⟩) (by kernel_rfl) ?_
  refine E.H.take 3 (.int .u32 ((a % 512 : Nat) : Int)) rfl (by kernel_rfl) (by kernel_rfl) (by kernel_rfl) (fun _ _ _ h => h) (fun w h => A.hpY (p := [A.blk g4 ([.pointer (some ⟨i2.1.1, 0, none⟩), .pointer (some ⟨i2.1.2, 0, none⟩)]), A.facts (M.opF ad0 n0 q0)]) (r := [M.It m7 W5 ([]), M.It i2.1.1 W5 ([]), R.It i2.1.2 W5]) h (by kernel_rfl) (A.pm [0, 4, 1, 2, 3] (by kernel_rfl) (by kernel_rfl))) (.inl ⟨by kernel_rfl, by kernel_rfl, fun w h => E.run_as (a := .int .u32 (bits .and .u32 ((a : Nat) : Int) 511)) (by kernel_rfl) (congrArg (Value.int .u32) (M.and9 ha))⟩) (by kernel_rfl) ?_
  refine E.H.take 4 (.string s) rfl (by kernel_rfl) (by kernel_rfl) (by kernel_rfl) (fun _ _ _ h => h) (fun w h => A.hpY (p := [A.blk g4 ([.pointer (some ⟨i2.1.1, 0, none⟩), .pointer (some ⟨i2.1.2, 0, none⟩)]), A.facts (M.opF ad0 n0 q0)]) (r := [M.It m7 W5 ([]), M.It i2.1.1 W5 ([]), R.It i2.1.2 W5]) h (by kernel_rfl) (A.pm [0, 4, 1, 2, 3] (by kernel_rfl) (by kernel_rfl))) (.inl ⟨by kernel_rfl, by kernel_rfl, fun w h => by kernel_rfl⟩) (by kernel_rfl) ?_
  refine E.H.take 5 (.string s) rfl (by kernel_rfl) (by kernel_rfl) (by kernel_rfl) (fun _ _ _ h => h) (fun w h => A.hpY (p := [A.blk g4 ([.pointer (some ⟨i2.1.1, 0, none⟩), .pointer (some ⟨i2.1.2, 0, none⟩)]), A.facts (M.opF ad0 n0 q0)]) (r := [M.It m7 W5 ([]), M.It i2.1.1 W5 ([]), R.It i2.1.2 W5]) h (by kernel_rfl) (A.pm [0, 4, 1, 2, 3] (by kernel_rfl) (by kernel_rfl))) (.inl ⟨by kernel_rfl, by kernel_rfl, fun w h => by kernel_rfl⟩) (by kernel_rfl) ?_
  refine E.H.take 6 (.int .i64 ((s.size : Nat) : Int)) rfl (by kernel_rfl) (by kernel_rfl) (by kernel_rfl) (fun _ _ _ h => h) (fun w h => A.hpY (p := [A.blk g4 ([.pointer (some ⟨i2.1.1, 0, none⟩), .pointer (some ⟨i2.1.2, 0, none⟩)]), A.facts (M.opF ad0 n0 q0)]) (r := [M.It m7 W5 ([]), M.It i2.1.1 W5 ([]), R.It i2.1.2 W5]) h (by kernel_rfl) (A.pm [0, 4, 1, 2, 3] (by kernel_rfl) (by kernel_rfl))) (.inl ⟨by kernel_rfl, by kernel_rfl, fun w h => by kernel_rfl⟩) (by kernel_rfl) ?_
  refine E.H.take 7 (.int .i64 (if 400 < ((s.size : Nat) : Int) then 400 else ((s.size : Nat) : Int))) rfl (by kernel_rfl) (by kernel_rfl) (by kernel_rfl) (fun _ _ _ h => h) (fun w h => A.hpY (p := [A.blk g4 ([.pointer (some ⟨i2.1.1, 0, none⟩), .pointer (some ⟨i2.1.2, 0, none⟩)]), A.facts (M.opF ad0 n0 q0)]) (r := [M.It m7 W5 ([]), M.It i2.1.1 W5 ([]), R.It i2.1.2 W5]) h (by kernel_rfl) (A.pm [0, 4, 1, 2, 3] (by kernel_rfl) (by kernel_rfl))) (.inl ⟨by kernel_rfl, by kernel_rfl, fun w h => by kernel_rfl⟩) (by kernel_rfl) ?_
  refine E.H.all [8] (by kernel_rfl) (by simp) (List.forall_mem_cons.2 ⟨⟨_, rfl, ?_⟩, fun _ h => (List.not_mem_nil h).elim⟩)
  · skip
    refine E.G.val (.string (M.s400 s)) (by kernel_rfl) (fun w h => E.slTo s .i64 (if 400 < ((s.size : Nat) : Int) then 400 else ((s.size : Nat) : Int)) (by kernel_rfl) (by kernel_rfl) (by kernel_rfl) (by have := M.l400_bd s; omega) (by have := M.l400_bd s; omega) w) ?_
    refine E.H.back (fun w h => A.hpY (p := [A.blk g4 ([.pointer (some ⟨i2.1.1, 0, none⟩), .pointer (some ⟨i2.1.2, 0, none⟩)]), A.facts (M.opF ad0 n0 q0)]) (r := [M.It m7 W5 ([]), M.It i2.1.1 W5 ([]), R.It i2.1.2 W5]) h (by kernel_rfl) (A.pm [0, 4, 1, 2, 3] (by kernel_rfl) (by kernel_rfl))) ?_
    refine E.H.all [9] (by kernel_rfl) (by simp) (List.forall_mem_cons.2 ⟨⟨_, rfl, ?_⟩, fun _ h => (List.not_mem_nil h).elim⟩)
    · skip
      refine A.G.call (I := Unit) (D := fun _ => True) (V := fun _ => .tuple #[]) (q := fun _ => [M.It i2.1.1 (W5.poke (a % 512) (M.s400 s) (M.s400 s).size) ([])]) [A.blk g4 ([.pointer (some ⟨i2.1.1, 0, none⟩), .pointer (some ⟨i2.1.2, 0, none⟩)]), M.It m7 W5 ([]), R.It i2.1.2 W5, A.facts (M.opF ad0 n0 q0)] (fun _ => [(g4, [.pointer (some ⟨i2.1.1, 0, none⟩), .pointer (some ⟨i2.1.2, 0, none⟩)])]) (fun _ => [M.It m7 W5 ([]), M.It i2.1.1 (W5.poke (a % 512) (M.s400 s) (M.s400 s).size) ([]), R.It i2.1.2 W5, A.facts (M.opF ad0 n0 q0)]) (A_Poke (a % 512) (M.s400 s) (by first | omega | (first | assumption | ((try simp only [Bool.or_eq_false_iff, Bool.or_eq_true, Bool.and_eq_true, Bool.and_eq_false_iff, Bool.not_eq_eq_eq_not, Bool.not_true, Bool.not_false, decide_eq_true_eq, decide_eq_false_iff_not, ge_iff_le, gt_iff_lt] at *); omega))) (M.s400_size _) (m := i2.1.1) (V := W5) (xs := [])) (by kernel_rfl) (A.pm [2, 0, 1, 3, 4] (by kernel_rfl) (by kernel_rfl)) (fun _ => A.pm [1, 2, 0, 3, 4] (by kernel_rfl) (by kernel_rfl)) (fun w _ => by kernel_rfl) (by kernel_rfl) (fun _ hd9 => ?_)
      refine E.H.back (fun w h => A.hpY (p := [A.blk g4 ([.pointer (some ⟨i2.1.1, 0, none⟩), .pointer (some ⟨i2.1.2, 0, none⟩)]), A.facts (M.opF ad0 n0 q0)]) (r := [M.It m7 W5 ([]), M.It i2.1.1 (W5.poke (a % 512) (M.s400 s) (M.s400 s).size) ([]), R.It i2.1.2 W5]) h (by kernel_rfl) (A.pm [0, 4, 1, 2, 3] (by kernel_rfl) (by kernel_rfl))) ?_
      refine E.H.done (by kernel_rfl) ?_
      refine E.To.code ?_
      refine E.C.weak [(2, .int .u32 ((a : Nat) : Int)), (6, .bool false), (7, .bool true), (8, .pointer (some ⟨g4, 0, none⟩)), (10, .pointer (some ⟨m7, 0, none⟩))] [(g4, [.pointer (some ⟨i2.1.1, 0, none⟩), .pointer (some ⟨i2.1.2, 0, none⟩)])] ⟨by kernel_rfl, by kernel_rfl⟩ (List.Sublist.refl _) ?_
      refine E.C.seq ?_
      refine E.C.region ?_
      refine E.G.op (.pointer (some ⟨g4, 0, none⟩)) (fun w => by kernel_rfl) (by kernel_rfl) ?_
      refine E.G.val (.pointer (some ⟨i2.1.1, 0, none⟩)) (by kernel_rfl) (fun w h => E.run_load h 0 rfl rfl (by kernel_rfl)) ?_
      refine E.G.op (.int .u32 ((a : Nat) : Int)) (fun w => by kernel_rfl) (by kernel_rfl) ?_
      refine E.G.val (.int .u32 ((a % 1024 : Nat) : Int)) (by kernel_rfl) (fun w h => E.run_as (a := .int .u32 (bits .and .u32 ((a : Nat) : Int) 1023)) (by kernel_rfl) (congrArg (Value.int .u32) (M.and10 ha))) ?_
      refine E.G.op (.int .u32 ((a : Nat) : Int)) (fun w => by kernel_rfl) (by kernel_rfl) ?_
      refine A.G.call (I := Unit) (D := fun _ => True) (V := fun _ => .tuple #[.int .u32 (((W5.poke (a % 512) (M.s400 s) (M.s400 s).size).chk (a % 1024) 2 4).1), .bool (((W5.poke (a % 512) (M.s400 s) (M.s400 s).size).chk (a % 1024) 2 4).2)]) (q := fun _ => [M.It i2.1.1 (M.fe W5 a s) ([])]) [A.blk g4 ([.pointer (some ⟨i2.1.1, 0, none⟩), .pointer (some ⟨i2.1.2, 0, none⟩)]), M.It m7 W5 ([]), R.It i2.1.2 W5, A.facts (M.opF ad0 n0 q0)] (fun _ => [(g4, [.pointer (some ⟨i2.1.1, 0, none⟩), .pointer (some ⟨i2.1.2, 0, none⟩)])]) (fun _ => [M.It m7 W5 ([]), M.It i2.1.1 (M.fe W5 a s) ([]), R.It i2.1.2 W5, A.facts (M.opF ad0 n0 q0)]) (A_Store (a % 1024) 4 ((a : Nat) : Int) (by first | omega | (first | assumption | ((try simp only [Bool.or_eq_false_iff, Bool.or_eq_true, Bool.and_eq_true, Bool.and_eq_false_iff, Bool.not_eq_eq_eq_not, Bool.not_true, Bool.not_false, decide_eq_true_eq, decide_eq_false_iff_not, ge_iff_le, gt_iff_lt] at *); omega))) (m := i2.1.1) (V := (W5.poke (a % 512) (M.s400 s) (M.s400 s).size)) (xs := [])) (by kernel_rfl) (A.pm [2, 0, 1, 3, 4] (by kernel_rfl) (by kernel_rfl)) (fun _ => A.pm [1, 2, 0, 3, 4] (by kernel_rfl) (by kernel_rfl)) (fun w _ => by kernel_rfl) (by kernel_rfl) (fun _ hd10 => ?_)
      refine E.To.code ?_
      refine E.C.seq ?_
      refine E.C.seq ?_
      refine E.C.region ?_
      refine E.G.op (.int .u32 0) (fun w => by kernel_rfl) (by kernel_rfl) ?_
      refine E.To.code ?_
      refine E.C.block ?_
      refine E.C.loop (I := Nat) (fun k => 768 - k) (fun k => k ≤ 768) (fun k => [(2, .int .u32 ((a : Nat) : Int)), (6, .bool false), (7, .bool true), (8, .pointer (some ⟨g4, 0, none⟩)), (10, .pointer (some ⟨m7, 0, none⟩)), (11, .int .u32 ((k : Nat) : Int))]) (fun k => A.X w oo aa [M.It m7 W5 ([]), M.It i2.1.1 (M.fe W5 a s) ([]), R.It i2.1.2 W5, A.facts (M.opF ad0 n0 q0)]) (fun k => [(g4, [.pointer (some ⟨i2.1.1, 0, none⟩), .pointer (some ⟨i2.1.2, 0, none⟩)])]) 0 (Nat.zero_le _) ⟨by kernel_rfl, by kernel_rfl⟩ (List.Sublist.refl _) (fun _ h => h) (fun k hk1 => ?_)
      refine E.C.seq ?_
      refine E.C.seq ?_
      refine E.C.region ?_
      refine E.G.op (.int .u32 ((k : Nat) : Int)) (fun w => by kernel_rfl) (by kernel_rfl) ?_
      refine E.G.op (.bool (decide (((k : Nat) : Int) < 768))) (fun w => by kernel_rfl) (by kernel_rfl) ?_
      refine E.To.code ?_
      refine E.C.cond (decide (((k : Nat) : Int) < 768)) (by kernel_rfl) (by kernel_rfl) (fun hc11 => ?_) (fun hc11 => ?_)
      · skip
        refine E.C.skip (E.To.code ?_)
        refine E.C.seq ?_
        refine E.C.block ?_
        refine E.C.seq ?_
        refine E.C.region ?_
        refine E.G.op (.pointer (some ⟨g4, 0, none⟩)) (fun w => by kernel_rfl) (by kernel_rfl) ?_
        refine E.G.val (.pointer (some ⟨i2.1.1, 0, none⟩)) (by kernel_rfl) (fun w h => E.run_load h 0 rfl rfl (by kernel_rfl)) ?_
        refine E.G.op (.int .u32 ((k : Nat) : Int)) (fun w => by kernel_rfl) (by kernel_rfl) ?_
        refine E.G.call (.int .u8 (W5.code k)) (fun w h => A.call_rd [A.blk g4 ([.pointer (some ⟨i2.1.1, 0, none⟩), .pointer (some ⟨i2.1.2, 0, none⟩)]), M.It m7 W5 ([]), R.It i2.1.2 W5, A.facts (M.opF ad0 n0 q0)] (M.rdAs (A_Code (m := i2.1.1) (V := (M.fe W5 a s)) (xs := []) k (by first | omega | (first | assumption | ((try simp only [Bool.or_eq_false_iff, Bool.or_eq_true, Bool.and_eq_true, Bool.and_eq_false_iff, Bool.not_eq_eq_eq_not, Bool.not_true, Bool.not_false, decide_eq_true_eq, decide_eq_false_iff_not, ge_iff_le, gt_iff_lt] at *); omega)))) (v' := .int .u8 (W5.code k)) (congrArg (Value.int .u8) (M.fe_code hd6 _ _ _))) h (by kernel_rfl) (A.pm [2, 0, 1, 3, 4] (by kernel_rfl) (by kernel_rfl))) (fun w _ => by kernel_rfl) (by kernel_rfl) ?_
        refine E.G.op (.pointer (some ⟨m7, 0, none⟩)) (fun w => by kernel_rfl) (by kernel_rfl) ?_
        refine E.G.op (.int .u32 ((k : Nat) : Int)) (fun w => by kernel_rfl) (by kernel_rfl) ?_
        refine E.G.call (.int .u8 (W5.code k)) (fun w h => A.call_rd [A.blk g4 ([.pointer (some ⟨i2.1.1, 0, none⟩), .pointer (some ⟨i2.1.2, 0, none⟩)]), M.It i2.1.1 (M.fe W5 a s) ([]), R.It i2.1.2 W5, A.facts (M.opF ad0 n0 q0)] (M.rdAs (A_Code (m := m7) (V := W5) (xs := []) k (by first | omega | (first | assumption | ((try simp only [Bool.or_eq_false_iff, Bool.or_eq_true, Bool.and_eq_true, Bool.and_eq_false_iff, Bool.not_eq_eq_eq_not, Bool.not_true, Bool.not_false, decide_eq_true_eq, decide_eq_false_iff_not, ge_iff_le, gt_iff_lt] at *); omega)))) (v' := .int .u8 (W5.code k)) (rfl)) h (by kernel_rfl) (A.pm [1, 0, 2, 3, 4] (by kernel_rfl) (by kernel_rfl))) (fun w _ => by kernel_rfl) (by kernel_rfl) ?_
        refine E.G.val (.bool false) (by kernel_rfl) (fun w h => E.run_as (a := .bool ((W5.code k) != (W5.code k))) (by kernel_rfl) (congrArg Value.bool (bne_self_eq_false _))) ?_
        refine E.To.code ?_
        refine E.C.condF (by kernel_rfl) (by kernel_rfl) ?_
        refine E.C.skip (E.P.nb (E.To.code ?_))
        refine E.C.region ?_
        refine E.G.op (.int .u32 ((k : Nat) : Int)) (fun w => by kernel_rfl) (by kernel_rfl) ?_
        refine E.G.val (.int .u32 ((k + 1 : Nat) : Int)) (by kernel_rfl) (fun w h => E.run_as (a := .int .u32 (IntKind.wrap .u32 (((k : Nat) : Int) + 1))) (by kernel_rfl) (congrArg (Value.int .u32) (M.u32_s (by (first | assumption | ((try simp only [Bool.or_eq_false_iff, Bool.or_eq_true, Bool.and_eq_true, Bool.and_eq_false_iff, Bool.not_eq_eq_eq_not, Bool.not_true, Bool.not_false, decide_eq_true_eq, decide_eq_false_iff_not, ge_iff_le, gt_iff_lt] at *); omega)))))) ?_
        refine E.G.op (.int .u32 ((k + 1 : Nat) : Int)) (fun w => by kernel_rfl) (by kernel_rfl) ?_
        exact E.To.round (k + 1) (by (first | assumption | ((try simp only [Bool.or_eq_false_iff, Bool.or_eq_true, Bool.and_eq_true, Bool.and_eq_false_iff, Bool.not_eq_eq_eq_not, Bool.not_true, Bool.not_false, decide_eq_true_eq, decide_eq_false_iff_not, ge_iff_le, gt_iff_lt] at *); omega))) (by (first | assumption | ((try simp only [Bool.or_eq_false_iff, Bool.or_eq_true, Bool.and_eq_true, Bool.and_eq_false_iff, Bool.not_eq_eq_eq_not, Bool.not_true, Bool.not_false, decide_eq_true_eq, decide_eq_false_iff_not, ge_iff_le, gt_iff_lt] at *); omega))) ⟨by kernel_rfl, by kernel_rfl⟩ (List.Sublist.refl _) (fun _ h => h)
      · skip
        refine E.C.exit (E.P.et (E.P.et (E.P.eh (E.To.code ?_))))
        refine E.C.seq ?_
        refine E.C.region ?_
        refine E.G.op (.pointer (some ⟨g4, 0, none⟩)) (fun w => by kernel_rfl) (by kernel_rfl) ?_
        refine E.G.val (.pointer (some ⟨i2.1.1, 0, none⟩)) (by kernel_rfl) (fun w h => E.run_load h 0 rfl rfl (by kernel_rfl)) ?_
        refine E.G.op (.int .u32 ((a : Nat) : Int)) (fun w => by kernel_rfl) (by kernel_rfl) ?_
        refine E.G.val (.int .u32 ((a % 1024 : Nat) : Int)) (by kernel_rfl) (fun w h => E.run_as (a := .int .u32 (bits .and .u32 ((a : Nat) : Int) 1023)) (by kernel_rfl) (congrArg (Value.int .u32) (M.and10 ha))) ?_
        refine A.G.call (I := Unit) (D := fun _ => True) (V := fun _ => .bool (decide ((a % 1024) / 256 < (M.fe W5 a s).n))) (q := fun _ => [M.It i2.1.1 ((M.fe W5 a s).sync ((a % 1024) / 256)) ([])]) [A.blk g4 ([.pointer (some ⟨i2.1.1, 0, none⟩), .pointer (some ⟨i2.1.2, 0, none⟩)]), M.It m7 W5 ([]), R.It i2.1.2 W5, A.facts (M.opF ad0 n0 q0)] (fun _ => [(g4, [.pointer (some ⟨i2.1.1, 0, none⟩), .pointer (some ⟨i2.1.2, 0, none⟩)])]) (fun _ => [M.It m7 W5 ([]), M.It i2.1.1 ((M.fe W5 a s).sync ((a % 1024) / 256)) ([]), R.It i2.1.2 W5, A.facts (M.opF ad0 n0 q0)]) (A_Sync (a % 1024) (by first | omega | (first | assumption | ((try simp only [Bool.or_eq_false_iff, Bool.or_eq_true, Bool.and_eq_true, Bool.and_eq_false_iff, Bool.not_eq_eq_eq_not, Bool.not_true, Bool.not_false, decide_eq_true_eq, decide_eq_false_iff_not, ge_iff_le, gt_iff_lt] at *); omega))) (m := i2.1.1) (V := (M.fe W5 a s)) (xs := [])) (by kernel_rfl) (A.pm [2, 0, 1, 3, 4] (by kernel_rfl) (by kernel_rfl)) (fun _ => A.pm [1, 2, 0, 3, 4] (by kernel_rfl) (by kernel_rfl)) (fun w _ => by kernel_rfl) (by kernel_rfl) (fun _ hd12 => ?_)
        refine E.To.code ?_
        refine E.C.weak [(2, .int .u32 ((a : Nat) : Int)), (6, .bool false), (7, .bool true), (8, .pointer (some ⟨g4, 0, none⟩)), (10, .pointer (some ⟨m7, 0, none⟩))] [(g4, [.pointer (some ⟨i2.1.1, 0, none⟩), .pointer (some ⟨i2.1.2, 0, none⟩)])] ⟨by kernel_rfl, by kernel_rfl⟩ (List.Sublist.refl _) ?_
        refine E.C.seq ?_
        refine E.C.seq ?_
        refine E.C.region ?_
        refine E.G.op (.int .u32 0) (fun w => by kernel_rfl) (by kernel_rfl) ?_
        refine E.To.code ?_
        refine E.C.block ?_
        refine E.C.loop (I := Nat) (fun j => 768 - j) (fun j => j ≤ 768) (fun j => [(2, .int .u32 ((a : Nat) : Int)), (6, .bool false), (7, .bool true), (8, .pointer (some ⟨g4, 0, none⟩)), (10, .pointer (some ⟨m7, 0, none⟩)), (12, .int .u32 ((j : Nat) : Int))]) (fun j => A.X w oo aa [M.It m7 W5 ([]), M.It i2.1.1 ((M.fe W5 a s).sync ((a % 1024) / 256)) ([]), R.It i2.1.2 W5, A.facts (M.opF ad0 n0 q0)]) (fun j => [(g4, [.pointer (some ⟨i2.1.1, 0, none⟩), .pointer (some ⟨i2.1.2, 0, none⟩)])]) 0 (Nat.zero_le _) ⟨by kernel_rfl, by kernel_rfl⟩ (List.Sublist.refl _) (fun _ h => h) (fun j hk2 => ?_)
        refine E.C.seq ?_
        refine E.C.seq ?_
        refine E.C.region ?_
        refine E.G.op (.int .u32 ((j : Nat) : Int)) (fun w => by kernel_rfl) (by kernel_rfl) ?_
        refine E.G.op (.bool (decide (((j : Nat) : Int) < 768))) (fun w => by kernel_rfl) (by kernel_rfl) ?_
        refine E.To.code ?_
        refine E.C.cond (decide (((j : Nat) : Int) < 768)) (by kernel_rfl) (by kernel_rfl) (fun hc13 => ?_) (fun hc13 => ?_)
        · skip
          refine E.C.skip (E.To.code ?_)
          refine E.C.seq ?_
          refine E.C.block ?_
          refine E.C.seq ?_
          refine E.C.region ?_
          refine E.G.op (.pointer (some ⟨m7, 0, none⟩)) (fun w => by kernel_rfl) (by kernel_rfl) ?_
          refine E.G.op (.int .u32 ((j : Nat) : Int)) (fun w => by kernel_rfl) (by kernel_rfl) ?_
          refine E.G.call (.int .u8 (W5.code j)) (fun w h => A.call_rd [A.blk g4 ([.pointer (some ⟨i2.1.1, 0, none⟩), .pointer (some ⟨i2.1.2, 0, none⟩)]), M.It i2.1.1 ((M.fe W5 a s).sync ((a % 1024) / 256)) ([]), R.It i2.1.2 W5, A.facts (M.opF ad0 n0 q0)] (M.rdAs (A_Code (m := m7) (V := W5) (xs := []) j (by first | omega | (first | assumption | ((try simp only [Bool.or_eq_false_iff, Bool.or_eq_true, Bool.and_eq_true, Bool.and_eq_false_iff, Bool.not_eq_eq_eq_not, Bool.not_true, Bool.not_false, decide_eq_true_eq, decide_eq_false_iff_not, ge_iff_le, gt_iff_lt] at *); omega)))) (v' := .int .u8 (W5.code j)) (rfl)) h (by kernel_rfl) (A.pm [1, 0, 2, 3, 4] (by kernel_rfl) (by kernel_rfl))) (fun w _ => by kernel_rfl) (by kernel_rfl) ?_
          refine E.G.op (.int .u8 (W5.code j)) (fun w => by kernel_rfl) (by kernel_rfl) ?_
          refine E.To.code ?_
          refine E.C.seq ?_
          refine E.C.seq ?_
          refine E.C.region ?_
          refine E.G.op (.int .u32 ((j : Nat) : Int)) (fun w => by kernel_rfl) (by kernel_rfl) ?_
          refine E.G.val (.int .u32 ((j / 256 : Nat) : Int)) (by kernel_rfl) (fun w h => E.run_as (a := .int .u32 (IntKind.wrap .u32 (Int.tdiv ((j : Nat) : Int) 256))) (by kernel_rfl) (congrArg (Value.int .u32) (by exact Nz.quo32 (x := j) 256 (by have := M.s400_size s; first | omega | (first | assumption | ((try simp only [Bool.or_eq_false_iff, Bool.or_eq_true, Bool.and_eq_true, Bool.and_eq_false_iff, Bool.not_eq_eq_eq_not, Bool.not_true, Bool.not_false, decide_eq_true_eq, decide_eq_false_iff_not, ge_iff_le, gt_iff_lt] at *); omega)))))) ?_
          refine E.G.op (.int .u32 ((a : Nat) : Int)) (fun w => by kernel_rfl) (by kernel_rfl) ?_
          refine E.G.val (.int .u32 ((a % 1024 : Nat) : Int)) (by kernel_rfl) (fun w h => E.run_as (a := .int .u32 (bits .and .u32 ((a : Nat) : Int) 1023)) (by kernel_rfl) (congrArg (Value.int .u32) (M.and10 ha))) ?_
          refine E.G.val (.int .u32 (((a % 1024) / 256 : Nat) : Int)) (by kernel_rfl) (fun w h => E.run_as (a := .int .u32 (IntKind.wrap .u32 (Int.tdiv ((a % 1024 : Nat) : Int) 256))) (by kernel_rfl) (congrArg (Value.int .u32) (by exact Nz.quo32 (x := (a % 1024)) 256 (by have := M.s400_size s; first | omega | (first | assumption | ((try simp only [Bool.or_eq_false_iff, Bool.or_eq_true, Bool.and_eq_true, Bool.and_eq_false_iff, Bool.not_eq_eq_eq_not, Bool.not_true, Bool.not_false, decide_eq_true_eq, decide_eq_false_iff_not, ge_iff_le, gt_iff_lt] at *); omega)))))) ?_
          refine E.G.op (.bool (((j / 256 : Nat) : Int) == (((a % 1024) / 256 : Nat) : Int))) (fun w => by kernel_rfl) (by kernel_rfl) ?_
          refine E.To.code ?_
          refine E.C.cond (((j / 256 : Nat) : Int) == (((a % 1024) / 256 : Nat) : Int)) (by kernel_rfl) (by kernel_rfl) (fun hc14 => ?_) (fun hc14 => ?_)
          · skip
            refine E.C.region ?_
            refine E.G.op (.pointer (some ⟨g4, 0, none⟩)) (fun w => by kernel_rfl) (by kernel_rfl) ?_
            refine E.G.val (.pointer (some ⟨i2.1.1, 0, none⟩)) (by kernel_rfl) (fun w h => E.run_load h 0 rfl rfl (by kernel_rfl)) ?_
            refine E.G.op (.int .u32 ((j : Nat) : Int)) (fun w => by kernel_rfl) (by kernel_rfl) ?_
            refine E.G.call (.int .u8 (((M.fe W5 a s).sync ((a % 1024) / 256)).peek j)) (fun w h => A.call_rd [A.blk g4 ([.pointer (some ⟨i2.1.1, 0, none⟩), .pointer (some ⟨i2.1.2, 0, none⟩)]), M.It m7 W5 ([]), R.It i2.1.2 W5, A.facts (M.opF ad0 n0 q0)] (A_Peek j (by first | omega | (first | assumption | ((try simp only [Bool.or_eq_false_iff, Bool.or_eq_true, Bool.and_eq_true, Bool.and_eq_false_iff, Bool.not_eq_eq_eq_not, Bool.not_true, Bool.not_false, decide_eq_true_eq, decide_eq_false_iff_not, ge_iff_le, gt_iff_lt] at *); omega))) (m := i2.1.1) (V := ((M.fe W5 a s).sync ((a % 1024) / 256))) (xs := [])) h (by kernel_rfl) (A.pm [2, 0, 1, 3, 4] (by kernel_rfl) (by kernel_rfl))) (fun w _ => by kernel_rfl) (by kernel_rfl) ?_
            refine E.G.op (.int .u8 (((M.fe W5 a s).sync ((a % 1024) / 256)).peek j)) (fun w => by kernel_rfl) (by kernel_rfl) ?_
            refine E.To.code ?_
            refine E.C.seq ?_
            refine E.C.region ?_
            refine E.G.op (.pointer (some ⟨g4, 0, none⟩)) (fun w => by kernel_rfl) (by kernel_rfl) ?_
            refine E.G.val (.pointer (some ⟨i2.1.1, 0, none⟩)) (by kernel_rfl) (fun w h => E.run_load h 0 rfl rfl (by kernel_rfl)) ?_
            refine E.G.op (.int .u32 ((j : Nat) : Int)) (fun w => by kernel_rfl) (by kernel_rfl) ?_
            refine E.G.call (.int .u8 (((M.fe W5 a s).sync ((a % 1024) / 256)).peek j)) (fun w h => A.call_rd [A.blk g4 ([.pointer (some ⟨i2.1.1, 0, none⟩), .pointer (some ⟨i2.1.2, 0, none⟩)]), M.It m7 W5 ([]), R.It i2.1.2 W5, A.facts (M.opF ad0 n0 q0)] (M.rdAs (A_Code (m := i2.1.1) (V := ((M.fe W5 a s).sync ((a % 1024) / 256))) (xs := []) j (by first | omega | (first | assumption | ((try simp only [Bool.or_eq_false_iff, Bool.or_eq_true, Bool.and_eq_true, Bool.and_eq_false_iff, Bool.not_eq_eq_eq_not, Bool.not_true, Bool.not_false, decide_eq_true_eq, decide_eq_false_iff_not, ge_iff_le, gt_iff_lt] at *); omega)))) (v' := .int .u8 (((M.fe W5 a s).sync ((a % 1024) / 256)).peek j)) (congrArg (Value.int .u8) (M.code_syncT (M.fe_is hd6 _ _) (by (first | assumption | ((try simp only [Bool.or_eq_false_iff, Bool.or_eq_true, Bool.and_eq_true, Bool.and_eq_false_iff, Bool.not_eq_eq_eq_not, Bool.not_true, Bool.not_false, decide_eq_true_eq, decide_eq_false_iff_not, ge_iff_le, gt_iff_lt] at *); omega))) hc14))) h (by kernel_rfl) (A.pm [2, 0, 1, 3, 4] (by kernel_rfl) (by kernel_rfl))) (fun w _ => by kernel_rfl) (by kernel_rfl) ?_
            refine E.G.op (.int .u8 (((M.fe W5 a s).sync ((a % 1024) / 256)).peek j)) (fun w => by kernel_rfl) (by kernel_rfl) ?_
            refine E.G.val (.bool false) (by kernel_rfl) (fun w h => E.run_as (a := .bool ((((M.fe W5 a s).sync ((a % 1024) / 256)).peek j) != (((M.fe W5 a s).sync ((a % 1024) / 256)).peek j))) (by kernel_rfl) (congrArg Value.bool (bne_self_eq_false _))) ?_
            refine E.To.code ?_
            refine E.C.condF (by kernel_rfl) (by kernel_rfl) ?_
            refine E.C.skip (E.P.nb (E.To.code ?_))
            refine E.C.region ?_
            refine E.G.op (.int .u32 ((j : Nat) : Int)) (fun w => by kernel_rfl) (by kernel_rfl) ?_
            refine E.G.val (.int .u32 ((j + 1 : Nat) : Int)) (by kernel_rfl) (fun w h => E.run_as (a := .int .u32 (IntKind.wrap .u32 (((j : Nat) : Int) + 1))) (by kernel_rfl) (congrArg (Value.int .u32) (M.u32_s (by (first | assumption | ((try simp only [Bool.or_eq_false_iff, Bool.or_eq_true, Bool.and_eq_true, Bool.and_eq_false_iff, Bool.not_eq_eq_eq_not, Bool.not_true, Bool.not_false, decide_eq_true_eq, decide_eq_false_iff_not, ge_iff_le, gt_iff_lt] at *); omega)))))) ?_
            refine E.G.op (.int .u32 ((j + 1 : Nat) : Int)) (fun w => by kernel_rfl) (by kernel_rfl) ?_
            exact E.To.round (j + 1) (by (first | assumption | ((try simp only [Bool.or_eq_false_iff, Bool.or_eq_true, Bool.and_eq_true, Bool.and_eq_false_iff, Bool.not_eq_eq_eq_not, Bool.not_true, Bool.not_false, decide_eq_true_eq, decide_eq_false_iff_not, ge_iff_le, gt_iff_lt] at *); omega))) (by (first | assumption | ((try simp only [Bool.or_eq_false_iff, Bool.or_eq_true, Bool.and_eq_true, Bool.and_eq_false_iff, Bool.not_eq_eq_eq_not, Bool.not_true, Bool.not_false, decide_eq_true_eq, decide_eq_false_iff_not, ge_iff_le, gt_iff_lt] at *); omega))) ⟨by kernel_rfl, by kernel_rfl⟩ (List.Sublist.refl _) (fun _ h => h)
          · skip
            refine E.C.skip (E.To.code ?_)
            refine E.C.seq ?_
            refine E.C.region ?_
            refine E.G.op (.pointer (some ⟨g4, 0, none⟩)) (fun w => by kernel_rfl) (by kernel_rfl) ?_
            refine E.G.val (.pointer (some ⟨i2.1.1, 0, none⟩)) (by kernel_rfl) (fun w h => E.run_load h 0 rfl rfl (by kernel_rfl)) ?_
            refine E.G.op (.int .u32 ((j : Nat) : Int)) (fun w => by kernel_rfl) (by kernel_rfl) ?_
            refine E.G.call (.int .u8 (W5.code j)) (fun w h => A.call_rd [A.blk g4 ([.pointer (some ⟨i2.1.1, 0, none⟩), .pointer (some ⟨i2.1.2, 0, none⟩)]), M.It m7 W5 ([]), R.It i2.1.2 W5, A.facts (M.opF ad0 n0 q0)] (M.rdAs (A_Code (m := i2.1.1) (V := ((M.fe W5 a s).sync ((a % 1024) / 256))) (xs := []) j (by first | omega | (first | assumption | ((try simp only [Bool.or_eq_false_iff, Bool.or_eq_true, Bool.and_eq_true, Bool.and_eq_false_iff, Bool.not_eq_eq_eq_not, Bool.not_true, Bool.not_false, decide_eq_true_eq, decide_eq_false_iff_not, ge_iff_le, gt_iff_lt] at *); omega)))) (v' := .int .u8 (W5.code j)) (congrArg (Value.int .u8) ((M.code_syncF hc14).trans (M.fe_code hd6 _ _ _)))) h (by kernel_rfl) (A.pm [2, 0, 1, 3, 4] (by kernel_rfl) (by kernel_rfl))) (fun w _ => by kernel_rfl) (by kernel_rfl) ?_
            refine E.G.op (.int .u8 (W5.code j)) (fun w => by kernel_rfl) (by kernel_rfl) ?_
            refine E.G.val (.bool false) (by kernel_rfl) (fun w h => E.run_as (a := .bool ((W5.code j) != (W5.code j))) (by kernel_rfl) (congrArg Value.bool (bne_self_eq_false _))) ?_
            refine E.To.code ?_
            refine E.C.condF (by kernel_rfl) (by kernel_rfl) ?_
            refine E.C.skip (E.P.nb (E.To.code ?_))
            refine E.C.region ?_
            refine E.G.op (.int .u32 ((j : Nat) : Int)) (fun w => by kernel_rfl) (by kernel_rfl) ?_
            refine E.G.val (.int .u32 ((j + 1 : Nat) : Int)) (by kernel_rfl) (fun w h => E.run_as (a := .int .u32 (IntKind.wrap .u32 (((j : Nat) : Int) + 1))) (by kernel_rfl) (congrArg (Value.int .u32) (M.u32_s (by (first | assumption | ((try simp only [Bool.or_eq_false_iff, Bool.or_eq_true, Bool.and_eq_true, Bool.and_eq_false_iff, Bool.not_eq_eq_eq_not, Bool.not_true, Bool.not_false, decide_eq_true_eq, decide_eq_false_iff_not, ge_iff_le, gt_iff_lt] at *); omega)))))) ?_
            refine E.G.op (.int .u32 ((j + 1 : Nat) : Int)) (fun w => by kernel_rfl) (by kernel_rfl) ?_
            exact E.To.round (j + 1) (by (first | assumption | ((try simp only [Bool.or_eq_false_iff, Bool.or_eq_true, Bool.and_eq_true, Bool.and_eq_false_iff, Bool.not_eq_eq_eq_not, Bool.not_true, Bool.not_false, decide_eq_true_eq, decide_eq_false_iff_not, ge_iff_le, gt_iff_lt] at *); omega))) (by (first | assumption | ((try simp only [Bool.or_eq_false_iff, Bool.or_eq_true, Bool.and_eq_true, Bool.and_eq_false_iff, Bool.not_eq_eq_eq_not, Bool.not_true, Bool.not_false, decide_eq_true_eq, decide_eq_false_iff_not, ge_iff_le, gt_iff_lt] at *); omega))) ⟨by kernel_rfl, by kernel_rfl⟩ (List.Sublist.refl _) (fun _ h => h)
        · skip
          refine E.C.exit (E.P.et (E.P.et (E.P.eh (E.To.code ?_))))
          refine E.C.seq ?_
          refine E.C.region ?_
          refine E.G.op (.bool true) (fun w => by kernel_rfl) (by kernel_rfl) ?_
          refine E.G.op (.bool true) (fun w => by kernel_rfl) (by kernel_rfl) ?_
          refine E.To.code ?_
          refine E.C.weak [(6, .bool true)] [] ⟨by kernel_rfl, by kernel_rfl⟩ (List.nil_sublist _) ?_
          refine E.C.ret (E.To.body (fn := Try.f9) [.bool true] ?_ ?_)
          · exact ⟨⟨by kernel_rfl, by kernel_rfl⟩, trivial⟩
          · intro w h
            exact ⟨rfl, h.ch.bel (fun x hx => (A.no1 hh x hx).elim)⟩
theorem MemFetches_law (s : ByteArray) (a : Int) {ao0 : Option Addr} {ad0 : Addr} {n0 cap0 : Nat} {q0 : Nat → M.Op} (hao0 : 0 < n0 → ao0 = some ad0) {w : World} (f0 : ∀ a v, M.opF ad0 n0 q0 a v → w.cell? a = some v) (ha : 0 ≤ a ∧ a < 4294967296) : Calls Try.prog 9 #[.slice ao0 n0 cap0, .string s, .int .u32 a] w fun e w' => e = .returned (.bool true) ∧ Bel w w' := by
  obtain ⟨b, rfl⟩ := Int.eq_ofNat_of_zero_le ha.1
  exact MemFetches_rd s b (by omega) hao0 w _ _ (A.facts_has f0)
end Go.Proofs.Ytdjjjikokfadiaa
