/- Texts of the walk, merged (3): see the remark ahead of each. -/
import Derived.Test.YtglidnmmeclneaaGreatKj2
import Derived.Test.YtglidnmmeclneaaGreatProg
import Derived.MapKept
import Derived.Laws.EntriesVeiled
import Derived.Great.BuildSlice
import Derived.Deep.RegionWith
import Derived.Deep.CutRange
namespace Go.Proofs.YtglidnmmeclneaaGreat
set_option linter.unusedVariables false
set_option linter.unusedSimpArgs false
open Go.RowKit
theorem M.load_bd {V : M.V} (hV : R.Wf V) (a : Nat) (n : Int) : 0 ≤ (V.load a n).1 ∧ (V.load a n).1 < 4294967296 := by
  unfold M.V.load
  split
  · exact R.ldv_bd hV _ _ _
  · exact ⟨Int.le_refl 0, by show (0 : Int) < 4294967296; decide⟩
def K.ga1 (x : K.W) (V : M.V) (a n D : Int) : K.W × M.V := (bif (!((V.load (a).toNat n).2.2)) then (K.fault x ((V.load (a).toNat n).2.1), V) else (K.a1 x D ((V.load (a).toNat n).1), V))
abbrev Zifya (V : M.V) (a : Int) (n : Int) := (V.load (a).toNat n).2.1
theorem Get_Ac1 {b m e1 : Nat} {xs : List Value} (x : K.W) (V : M.V) (a n D : Int) (ha : 0 ≤ a ∧ a < 4294967296) (hV : R.Wf V) (hD : 0 ≤ D ∧ D < ((16 : Nat) : Int)) : A.Tr Tryz.prog 82 #[.pointer (some ⟨b, 0, none⟩), .int .u32 a, .int .i64 n, .func (.func 83) #[] #[.pointer (some ⟨e1, 0, none⟩)]] [A.blk b (K.wk x m), A.blk e1 [.pointer (some ⟨b, 25 + (D).toNat, none⟩)], M.It m V xs] (I := Unit) (fun _ => True) (fun _ => .tuple #[]) (fun _ => [A.blk b (K.wk (K.ga1 x V a n D).1 m), A.blk e1 [.pointer (some ⟨b, 25 + (D).toNat, none⟩)], M.It m (K.ga1 x V a n D).2 xs]) := by
 intro w oo aa hh
 refine E.enter (n := 30) (S := oo) Tryz.func82 rfl rfl Nz.k (A.start (L := [(b, (K.wk x m)), (e1, [E.pj b (25 + (D).toNat)])]) hh) (E.sr (E.op (E.pt b) (E.op (E.pt b) (E.op (E.pj b 57) (E.li (.func (.method "Load") #[.iface 35 (E.pt m)] #[]) 0 rfl rfl (E.op (E.u a) (E.op (E.i n) (E.ca (.tuple #[E.u ((V.load (a).toNat n).1), E.u (Zifya V a n), .bool ((V.load (a).toNat n).2.2)]) (fun w h => A.cq [2] [0, 1] (I_Load a n ha (m := m) (V := V) (xs := xs)) h) (E.op (.tuple #[E.u ((V.load (a).toNat n).1), E.u (Zifya V a n), .bool ((V.load (a).toNat n).2.2)]) (E.op (E.u ((V.load (a).toNat n).1)) (E.op (E.u (Zifya V a n)) ?_)))))))))))
 refine E.op (.bool ((V.load (a).toNat n).2.2)) (E.op (E.u ((V.load (a).toNat n).1)) (E.op (E.u (Zifya V a n)) (E.op (.bool ((V.load (a).toNat n).2.2)) (E.To.code (E.wk [(0, E.pt b), (3, .func (.func 83) #[] #[E.pt e1]), (8, E.u ((V.load (a).toNat n).1)), (9, E.u (Zifya V a n)), (10, .bool ((V.load (a).toNat n).2.2))] [(b, (K.wk x m)), (e1, [E.pj b (25 + (D).toNat)])] Nz.sub (E.C.seq (E.sr (E.op (.bool ((V.load (a).toNat n).2.2)) (E.op (.bool (!((V.load (a).toNat n).2.2))) (E.To.code (E.cd (!((V.load (a).toNat n).2.2)) (fun hc1 => ?_) (fun hc1 => ?_))))))))))))
 ·
  refine E.sr (E.op (E.pt b) (E.op (E.u (Zifya V a n)) (A.gc (fun _ => .tuple #[]) (Fault (b := b) (m := m) x (Zifya V a n)) [0] [1, 2] [0, 1, 2] (fun _ => [(b, (K.wk (K.fault x (Zifya V a n)) m)), (e1, [E.pj b (25 + (D).toNat)])]) (fun _ => [M.It m V xs]) (fun _ hd2 => E.To.code (E.wk [(3, .func (.func 83) #[] #[E.pt e1]), (8, E.u ((V.load (a).toNat n).1))] [(b, (K.wk (K.fault x (Zifya V a n)) m)), (e1, [E.pj b (25 + (D).toNat)])] Nz.sub (E.C.ret (E.P.rt (E.To.body (fn := Tryz.f82) [] ?_ ?_))))))))
  · exact trivial
  intro w h
  have e : (K.ga1 x V a n D) = (K.fault x (Zifya V a n), V) := by unfold K.ga1; rw [hc1, N1] <;> rfl
  rw [e]
  exact ⟨(), trivial, rfl, A.dq [0, 1, 2] [] h⟩
 refine E.C.skip (E.To.code (E.C.region (E.op (.func (.func 83) #[] #[E.pt e1]) (E.op (E.u ((V.load (a).toNat n).1)) (A.gc (fun _ => .tuple #[]) (Ac1 (b := b) (m := m) (e1 := e1) x D ((V.load (a).toNat n).1) hD) [0, 1] [2] [0, 1, 2] (fun _ => [(b, (K.wk (K.a1 x D ((V.load (a).toNat n).1)) m)), (e1, [E.pj b (25 + (D).toNat)])]) (fun _ => [M.It m V xs]) (fun _ hd3 => E.To.bodyN (fn := Tryz.f82) [] ?_ ?_))))))
 · exact trivial
 intro w h
 have e : (K.ga1 x V a n D) = (K.a1 x D ((V.load (a).toNat n).1), V) := by unfold K.ga1; rw [hc1, N0] <;> rfl
 rw [e]
 exact ⟨(), trivial, rfl, A.dq [0, 1, 2] [] h⟩
def K.ga2 (x : K.W) (V : M.V) (a n D : Int) : K.W × M.V := (bif (!((V.load (a).toNat n).2.2)) then (K.fault x ((V.load (a).toNat n).2.1), V) else (K.a2 x D ((V.load (a).toNat n).1), V))
abbrev Zbcva (V : M.V) (a : Int) (n : Int) := (V.load (a).toNat n).2.1
theorem Get_Ac2 {b m e1 : Nat} {xs : List Value} (x : K.W) (V : M.V) (a n D : Int) (ha : 0 ≤ a ∧ a < 4294967296) (hV : R.Wf V) (hD : 0 ≤ D ∧ D < ((16 : Nat) : Int)) : A.Tr Tryz.prog 82 #[.pointer (some ⟨b, 0, none⟩), .int .u32 a, .int .i64 n, .func (.func 84) #[] #[.pointer (some ⟨e1, 0, none⟩)]] [A.blk b (K.wk x m), A.blk e1 [.pointer (some ⟨b, 25 + (D).toNat, none⟩)], M.It m V xs] (I := Unit) (fun _ => True) (fun _ => .tuple #[]) (fun _ => [A.blk b (K.wk (K.ga2 x V a n D).1 m), A.blk e1 [.pointer (some ⟨b, 25 + (D).toNat, none⟩)], M.It m (K.ga2 x V a n D).2 xs]) := by
 intro w oo aa hh
 refine E.enter (n := 30) (S := oo) Tryz.func82 rfl rfl Nz.k (A.start (L := [(b, (K.wk x m)), (e1, [E.pj b (25 + (D).toNat)])]) hh) (E.sr (E.op (E.pt b) (E.op (E.pt b) (E.op (E.pj b 57) (E.li (.func (.method "Load") #[.iface 35 (E.pt m)] #[]) 0 rfl rfl (E.op (E.u a) (E.op (E.i n) (E.ca (.tuple #[E.u ((V.load (a).toNat n).1), E.u (Zbcva V a n), .bool ((V.load (a).toNat n).2.2)]) (fun w h => A.cq [2] [0, 1] (I_Load a n ha (m := m) (V := V) (xs := xs)) h) (E.op (.tuple #[E.u ((V.load (a).toNat n).1), E.u (Zbcva V a n), .bool ((V.load (a).toNat n).2.2)]) (E.op (E.u ((V.load (a).toNat n).1)) (E.op (E.u (Zbcva V a n)) ?_)))))))))))
 refine E.op (.bool ((V.load (a).toNat n).2.2)) (E.op (E.u ((V.load (a).toNat n).1)) (E.op (E.u (Zbcva V a n)) (E.op (.bool ((V.load (a).toNat n).2.2)) (E.To.code (E.wk [(0, E.pt b), (3, .func (.func 84) #[] #[E.pt e1]), (8, E.u ((V.load (a).toNat n).1)), (9, E.u (Zbcva V a n)), (10, .bool ((V.load (a).toNat n).2.2))] [(b, (K.wk x m)), (e1, [E.pj b (25 + (D).toNat)])] Nz.sub (E.C.seq (E.sr (E.op (.bool ((V.load (a).toNat n).2.2)) (E.op (.bool (!((V.load (a).toNat n).2.2))) (E.To.code (E.cd (!((V.load (a).toNat n).2.2)) (fun hc1 => ?_) (fun hc1 => ?_))))))))))))
 ·
  refine E.sr (E.op (E.pt b) (E.op (E.u (Zbcva V a n)) (A.gc (fun _ => .tuple #[]) (Fault (b := b) (m := m) x (Zbcva V a n)) [0] [1, 2] [0, 1, 2] (fun _ => [(b, (K.wk (K.fault x (Zbcva V a n)) m)), (e1, [E.pj b (25 + (D).toNat)])]) (fun _ => [M.It m V xs]) (fun _ hd2 => E.To.code (E.wk [(3, .func (.func 84) #[] #[E.pt e1]), (8, E.u ((V.load (a).toNat n).1))] [(b, (K.wk (K.fault x (Zbcva V a n)) m)), (e1, [E.pj b (25 + (D).toNat)])] Nz.sub (E.C.ret (E.P.rt (E.To.body (fn := Tryz.f82) [] ?_ ?_))))))))
  · exact trivial
  intro w h
  have e : (K.ga2 x V a n D) = (K.fault x (Zbcva V a n), V) := by unfold K.ga2; rw [hc1, N1] <;> rfl
  rw [e]
  exact ⟨(), trivial, rfl, A.dq [0, 1, 2] [] h⟩
 refine E.C.skip (E.To.code (E.C.region (E.op (.func (.func 84) #[] #[E.pt e1]) (E.op (E.u ((V.load (a).toNat n).1)) (A.gc (fun _ => .tuple #[]) (Ac2 (b := b) (m := m) (e1 := e1) x D ((V.load (a).toNat n).1) hD) [0, 1] [2] [0, 1, 2] (fun _ => [(b, (K.wk (K.a2 x D ((V.load (a).toNat n).1)) m)), (e1, [E.pj b (25 + (D).toNat)])]) (fun _ => [M.It m V xs]) (fun _ hd3 => E.To.bodyN (fn := Tryz.f82) [] ?_ ?_))))))
 · exact trivial
 intro w h
 have e : (K.ga2 x V a n D) = (K.a2 x D ((V.load (a).toNat n).1), V) := by unfold K.ga2; rw [hc1, N0] <;> rfl
 rw [e]
 exact ⟨(), trivial, rfl, A.dq [0, 1, 2] [] h⟩
def K.ga3 (x : K.W) (V : M.V) (a n D p : Int) : K.W × M.V := (bif (!((V.load (a).toNat n).2.2)) then (K.fault x ((V.load (a).toNat n).2.1), V) else (K.a3 x D p ((V.load (a).toNat n).1), V))
abbrev Z891a (V : M.V) (a : Int) (n : Int) := (V.load (a).toNat n).2.1
theorem Get_Ac3 {b m e1 e2 e3 : Nat} {xs : List Value} (x : K.W) (V : M.V) (a n D p : Int) (ha : 0 ≤ a ∧ a < 4294967296) (hV : R.Wf V) (hD : 0 ≤ D ∧ D < ((16 : Nat) : Int)) (hp : 0 ≤ p ∧ p < 4294967296) : A.Tr Tryz.prog 82 #[.pointer (some ⟨b, 0, none⟩), .int .u32 a, .int .i64 n, .func (.func 86) #[] #[.pointer (some ⟨e1, 0, none⟩), .pointer (some ⟨e2, 0, none⟩), .pointer (some ⟨e3, 0, none⟩)]] [A.blk b (K.wk x m), A.blk e1 [.pointer (some ⟨b, 0, none⟩)], A.blk e2 [.int .u32 p], A.blk e3 [.pointer (some ⟨b, 25 + (D).toNat, none⟩)], M.It m V xs] (I := Unit) (fun _ => True) (fun _ => .tuple #[]) (fun _ => [A.blk b (K.wk (K.ga3 x V a n D p).1 m), A.blk e1 [.pointer (some ⟨b, 0, none⟩)], A.blk e2 [.int .u32 p], A.blk e3 [.pointer (some ⟨b, 25 + (D).toNat, none⟩)], M.It m (K.ga3 x V a n D p).2 xs]) := by
 intro w oo aa hh
 refine E.enter (n := 30) (S := oo) Tryz.func82 rfl rfl Nz.k (A.start (L := [(b, (K.wk x m)), (e1, [E.pt b]), (e2, [E.u p]), (e3, [E.pj b (25 + (D).toNat)])]) hh) (E.sr (E.op (E.pt b) (E.op (E.pt b) (E.op (E.pj b 57) (E.li (.func (.method "Load") #[.iface 35 (E.pt m)] #[]) 0 rfl rfl (E.op (E.u a) (E.op (E.i n) (E.ca (.tuple #[E.u ((V.load (a).toNat n).1), E.u (Z891a V a n), .bool ((V.load (a).toNat n).2.2)]) (fun w h => A.cq [4] [0, 1, 2, 3] (I_Load a n ha (m := m) (V := V) (xs := xs)) h) (E.op (.tuple #[E.u ((V.load (a).toNat n).1), E.u (Z891a V a n), .bool ((V.load (a).toNat n).2.2)]) (E.op (E.u ((V.load (a).toNat n).1)) (E.op (E.u (Z891a V a n)) ?_)))))))))))
 refine E.op (.bool ((V.load (a).toNat n).2.2)) (E.op (E.u ((V.load (a).toNat n).1)) (E.op (E.u (Z891a V a n)) (E.op (.bool ((V.load (a).toNat n).2.2)) (E.To.code (E.wk [(0, E.pt b), (3, .func (.func 86) #[] #[E.pt e1, E.pt e2, E.pt e3]), (8, E.u ((V.load (a).toNat n).1)), (9, E.u (Z891a V a n)), (10, .bool ((V.load (a).toNat n).2.2))] [(b, (K.wk x m)), (e1, [E.pt b]), (e2, [E.u p]), (e3, [E.pj b (25 + (D).toNat)])] Nz.sub (E.C.seq (E.sr (E.op (.bool ((V.load (a).toNat n).2.2)) (E.op (.bool (!((V.load (a).toNat n).2.2))) (E.To.code (E.cd (!((V.load (a).toNat n).2.2)) (fun hc1 => ?_) (fun hc1 => ?_))))))))))))
 ·
  refine E.sr (E.op (E.pt b) (E.op (E.u (Z891a V a n)) (A.gc (fun _ => .tuple #[]) (Fault (b := b) (m := m) x (Z891a V a n)) [0] [1, 2, 3, 4] [0, 1, 2, 3, 4] (fun _ => [(b, (K.wk (K.fault x (Z891a V a n)) m)), (e1, [E.pt b]), (e2, [E.u p]), (e3, [E.pj b (25 + (D).toNat)])]) (fun _ => [M.It m V xs]) (fun _ hd2 => E.To.code (E.wk [(3, .func (.func 86) #[] #[E.pt e1, E.pt e2, E.pt e3]), (8, E.u ((V.load (a).toNat n).1))] [(b, (K.wk (K.fault x (Z891a V a n)) m)), (e1, [E.pt b]), (e2, [E.u p]), (e3, [E.pj b (25 + (D).toNat)])] Nz.sub (E.C.ret (E.P.rt (E.To.body (fn := Tryz.f82) [] ?_ ?_))))))))
  · exact trivial
  intro w h
  have e : (K.ga3 x V a n D p) = (K.fault x (Z891a V a n), V) := by unfold K.ga3; rw [hc1, N1] <;> rfl
  rw [e]
  exact ⟨(), trivial, rfl, A.dq [0, 1, 2, 3, 4] [] h⟩
 refine E.C.skip (E.To.code (E.C.region (E.op (.func (.func 86) #[] #[E.pt e1, E.pt e2, E.pt e3]) (E.op (E.u ((V.load (a).toNat n).1)) (A.gc (fun _ => .tuple #[]) (Ac3 (b := b) (m := m) (e1 := e1) (e2 := e2) (e3 := e3) x D p ((V.load (a).toNat n).1) hD hp (M.load_bd hV _ _)) [0, 1, 2, 3] [4] [0, 1, 2, 3, 4] (fun _ => [(b, (K.wk (K.a3 x D p ((V.load (a).toNat n).1)) m)), (e1, [E.pt b]), (e2, [E.u p]), (e3, [E.pj b (25 + (D).toNat)])]) (fun _ => [M.It m V xs]) (fun _ hd3 => E.To.bodyN (fn := Tryz.f82) [] ?_ ?_))))))
 · exact trivial
 intro w h
 have e : (K.ga3 x V a n D p) = (K.a3 x D p ((V.load (a).toNat n).1), V) := by unfold K.ga3; rw [hc1, N0] <;> rfl
 rw [e]
 exact ⟨(), trivial, rfl, A.dq [0, 1, 2, 3, 4] [] h⟩
def K.ga4 (x : K.W) (V : M.V) (a n p : Int) : K.W × M.V := (bif (!((V.load (a).toNat n).2.2)) then (K.fault x ((V.load (a).toNat n).2.1), V) else ((K.a4 x V a p ((V.load (a).toNat n).1)).1, (K.a4 x V a p ((V.load (a).toNat n).1)).2))
abbrev Z4ota (V : M.V) (a : Int) (n : Int) := (V.load (a).toNat n).1
abbrev Z4otb (V : M.V) (a : Int) (n : Int) := (V.load (a).toNat n).2.1
theorem Get_Ac4 {b m e1 e2 e3 : Nat} {xs : List Value} (x : K.W) (V : M.V) (a n p : Int) (ha : 0 ≤ a ∧ a < 4294967296) (hV : R.Wf V) (hp : 0 ≤ p ∧ p < 4294967296) : A.Tr Tryz.prog 82 #[.pointer (some ⟨b, 0, none⟩), .int .u32 a, .int .i64 n, .func (.func 87) #[] #[.pointer (some ⟨e1, 0, none⟩), .pointer (some ⟨e2, 0, none⟩), .pointer (some ⟨e3, 0, none⟩)]] [A.blk b (K.wk x m), A.blk e1 [.pointer (some ⟨b, 0, none⟩)], A.blk e2 [.int .u32 p], A.blk e3 [.int .u32 a], M.It m V xs] (I := Unit) (fun _ => True) (fun _ => .tuple #[]) (fun _ => [A.blk b (K.wk (K.ga4 x V a n p).1 m), A.blk e1 [.pointer (some ⟨b, 0, none⟩)], A.blk e2 [.int .u32 p], A.blk e3 [.int .u32 a], M.It m (K.ga4 x V a n p).2 xs]) := by
 intro w oo aa hh
 refine E.enter (n := 30) (S := oo) Tryz.func82 rfl rfl Nz.k (A.start (L := [(b, (K.wk x m)), (e1, [E.pt b]), (e2, [E.u p]), (e3, [E.u a])]) hh) (E.sr (E.op (E.pt b) (E.op (E.pt b) (E.op (E.pj b 57) (E.li (.func (.method "Load") #[.iface 35 (E.pt m)] #[]) 0 rfl rfl (E.op (E.u a) (E.op (E.i n) (E.ca (.tuple #[E.u (Z4ota V a n), E.u (Z4otb V a n), .bool ((V.load (a).toNat n).2.2)]) (fun w h => A.cq [4] [0, 1, 2, 3] (I_Load a n ha (m := m) (V := V) (xs := xs)) h) (E.op (.tuple #[E.u (Z4ota V a n), E.u (Z4otb V a n), .bool ((V.load (a).toNat n).2.2)]) (E.op (E.u (Z4ota V a n)) (E.op (E.u (Z4otb V a n)) ?_)))))))))))
 refine E.op (.bool ((V.load (a).toNat n).2.2)) (E.op (E.u (Z4ota V a n)) (E.op (E.u (Z4otb V a n)) (E.op (.bool ((V.load (a).toNat n).2.2)) (E.To.code (E.wk [(0, E.pt b), (3, .func (.func 87) #[] #[E.pt e1, E.pt e2, E.pt e3]), (8, E.u (Z4ota V a n)), (9, E.u (Z4otb V a n)), (10, .bool ((V.load (a).toNat n).2.2))] [(b, (K.wk x m)), (e1, [E.pt b]), (e2, [E.u p]), (e3, [E.u a])] Nz.sub (E.C.seq (E.sr (E.op (.bool ((V.load (a).toNat n).2.2)) (E.op (.bool (!((V.load (a).toNat n).2.2))) (E.To.code (E.cd (!((V.load (a).toNat n).2.2)) (fun hc1 => ?_) (fun hc1 => ?_))))))))))))
 ·
  refine E.sr (E.op (E.pt b) (E.op (E.u (Z4otb V a n)) (A.gc (fun _ => .tuple #[]) (Fault (b := b) (m := m) x (Z4otb V a n)) [0] [1, 2, 3, 4] [0, 1, 2, 3, 4] (fun _ => [(b, (K.wk (K.fault x (Z4otb V a n)) m)), (e1, [E.pt b]), (e2, [E.u p]), (e3, [E.u a])]) (fun _ => [M.It m V xs]) (fun _ hd2 => E.To.code (E.wk [(3, .func (.func 87) #[] #[E.pt e1, E.pt e2, E.pt e3]), (8, E.u (Z4ota V a n))] [(b, (K.wk (K.fault x (Z4otb V a n)) m)), (e1, [E.pt b]), (e2, [E.u p]), (e3, [E.u a])] Nz.sub (E.C.ret (E.P.rt (E.To.body (fn := Tryz.f82) [] ?_ ?_))))))))
  · exact trivial
  intro w h
  have e : (K.ga4 x V a n p) = (K.fault x (Z4otb V a n), V) := by unfold K.ga4; rw [hc1, N1] <;> rfl
  rw [e]
  exact ⟨(), trivial, rfl, A.dq [0, 1, 2, 3, 4] [] h⟩
 refine E.C.skip (E.To.code (E.C.region (E.op (.func (.func 87) #[] #[E.pt e1, E.pt e2, E.pt e3]) (E.op (E.u (Z4ota V a n)) (A.gc (fun _ => .tuple #[]) (Ac4 (b := b) (m := m) (e1 := e1) (e2 := e2) (e3 := e3) (xs := xs) x V a p (Z4ota V a n) ha hp (M.load_bd hV _ _)) [0, 1, 2, 3, 4] [] [0, 1, 2, 3, 4] (fun _ => [(b, (K.wk ((K.a4 x V a p (Z4ota V a n)).1) m)), (e1, [E.pt b]), (e2, [E.u p]), (e3, [E.u a])]) (fun _ => [M.It m ((K.a4 x V a p (Z4ota V a n)).2) xs]) (fun _ hd3 => E.To.bodyN (fn := Tryz.f82) [] ?_ ?_))))))
 · exact trivial
 intro w h
 have e : (K.ga4 x V a n p) = ((K.a4 x V a p (Z4ota V a n)).1, (K.a4 x V a p (Z4ota V a n)).2) := by unfold K.ga4; rw [hc1, N0] <;> rfl
 rw [e]
 exact ⟨(), trivial, rfl, A.dq [0, 1, 2, 3, 4] [] h⟩
def K.gs1 (x : K.W) (V : M.V) (a n D : Int) : K.W × M.V := (bif (!((V.load (a).toNat n).2.2)) then (K.fault x ((V.load (a).toNat n).2.1), V) else (K.s1 x D ((V.load (a).toNat n).1), V))
abbrev Zt63a (V : M.V) (a : Int) (n : Int) := (V.load (a).toNat n).2.1
theorem Get_Si1 {b m e1 : Nat} {xs : List Value} (x : K.W) (V : M.V) (a n D : Int) (ha : 0 ≤ a ∧ a < 4294967296) (hV : R.Wf V) (hD : 0 ≤ D ∧ D < ((16 : Nat) : Int)) : A.Tr Tryz.prog 82 #[.pointer (some ⟨b, 0, none⟩), .int .u32 a, .int .i64 n, .func (.func 90) #[] #[.pointer (some ⟨e1, 0, none⟩)]] [A.blk b (K.wk x m), A.blk e1 [.pointer (some ⟨b, 25 + (D).toNat, none⟩)], M.It m V xs] (I := Unit) (fun _ => True) (fun _ => .tuple #[]) (fun _ => [A.blk b (K.wk (K.gs1 x V a n D).1 m), A.blk e1 [.pointer (some ⟨b, 25 + (D).toNat, none⟩)], M.It m (K.gs1 x V a n D).2 xs]) := by
 intro w oo aa hh
 refine E.enter (n := 30) (S := oo) Tryz.func82 rfl rfl Nz.k (A.start (L := [(b, (K.wk x m)), (e1, [E.pj b (25 + (D).toNat)])]) hh) (E.sr (E.op (E.pt b) (E.op (E.pt b) (E.op (E.pj b 57) (E.li (.func (.method "Load") #[.iface 35 (E.pt m)] #[]) 0 rfl rfl (E.op (E.u a) (E.op (E.i n) (E.ca (.tuple #[E.u ((V.load (a).toNat n).1), E.u (Zt63a V a n), .bool ((V.load (a).toNat n).2.2)]) (fun w h => A.cq [2] [0, 1] (I_Load a n ha (m := m) (V := V) (xs := xs)) h) (E.op (.tuple #[E.u ((V.load (a).toNat n).1), E.u (Zt63a V a n), .bool ((V.load (a).toNat n).2.2)]) (E.op (E.u ((V.load (a).toNat n).1)) (E.op (E.u (Zt63a V a n)) ?_)))))))))))
 refine E.op (.bool ((V.load (a).toNat n).2.2)) (E.op (E.u ((V.load (a).toNat n).1)) (E.op (E.u (Zt63a V a n)) (E.op (.bool ((V.load (a).toNat n).2.2)) (E.To.code (E.wk [(0, E.pt b), (3, .func (.func 90) #[] #[E.pt e1]), (8, E.u ((V.load (a).toNat n).1)), (9, E.u (Zt63a V a n)), (10, .bool ((V.load (a).toNat n).2.2))] [(b, (K.wk x m)), (e1, [E.pj b (25 + (D).toNat)])] Nz.sub (E.C.seq (E.sr (E.op (.bool ((V.load (a).toNat n).2.2)) (E.op (.bool (!((V.load (a).toNat n).2.2))) (E.To.code (E.cd (!((V.load (a).toNat n).2.2)) (fun hc1 => ?_) (fun hc1 => ?_))))))))))))
 ·
  refine E.sr (E.op (E.pt b) (E.op (E.u (Zt63a V a n)) (A.gc (fun _ => .tuple #[]) (Fault (b := b) (m := m) x (Zt63a V a n)) [0] [1, 2] [0, 1, 2] (fun _ => [(b, (K.wk (K.fault x (Zt63a V a n)) m)), (e1, [E.pj b (25 + (D).toNat)])]) (fun _ => [M.It m V xs]) (fun _ hd2 => E.To.code (E.wk [(3, .func (.func 90) #[] #[E.pt e1]), (8, E.u ((V.load (a).toNat n).1))] [(b, (K.wk (K.fault x (Zt63a V a n)) m)), (e1, [E.pj b (25 + (D).toNat)])] Nz.sub (E.C.ret (E.P.rt (E.To.body (fn := Tryz.f82) [] ?_ ?_))))))))
  · exact trivial
  intro w h
  have e : (K.gs1 x V a n D) = (K.fault x (Zt63a V a n), V) := by unfold K.gs1; rw [hc1, N1] <;> rfl
  rw [e]
  exact ⟨(), trivial, rfl, A.dq [0, 1, 2] [] h⟩
 refine E.C.skip (E.To.code (E.C.region (E.op (.func (.func 90) #[] #[E.pt e1]) (E.op (E.u ((V.load (a).toNat n).1)) (A.gc (fun _ => .tuple #[]) (Si1 (b := b) (m := m) (e1 := e1) x D ((V.load (a).toNat n).1) hD) [0, 1] [2] [0, 1, 2] (fun _ => [(b, (K.wk (K.s1 x D ((V.load (a).toNat n).1)) m)), (e1, [E.pj b (25 + (D).toNat)])]) (fun _ => [M.It m V xs]) (fun _ hd3 => E.To.bodyN (fn := Tryz.f82) [] ?_ ?_))))))
 · exact trivial
 intro w h
 have e : (K.gs1 x V a n D) = (K.s1 x D ((V.load (a).toNat n).1), V) := by unfold K.gs1; rw [hc1, N0] <;> rfl
 rw [e]
 exact ⟨(), trivial, rfl, A.dq [0, 1, 2] [] h⟩
def K.gc1 (x : K.W) (V : M.V) (a n : Int) : K.W × M.V := (bif (!((V.load (a).toNat n).2.2)) then (K.fault x ((V.load (a).toNat n).2.1), V) else (K.c1 x ((V.load (a).toNat n).1), V))
abbrev Zoosa (V : M.V) (a : Int) (n : Int) := (V.load (a).toNat n).2.1
theorem Get_Co1 {b m e1 : Nat} {xs : List Value} (x : K.W) (V : M.V) (a n : Int) (ha : 0 ≤ a ∧ a < 4294967296) (hV : R.Wf V)  : A.Tr Tryz.prog 82 #[.pointer (some ⟨b, 0, none⟩), .int .u32 a, .int .i64 n, .func (.func 92) #[] #[.pointer (some ⟨e1, 0, none⟩)]] [A.blk b (K.wk x m), A.blk e1 [.pointer (some ⟨b, 24, none⟩)], M.It m V xs] (I := Unit) (fun _ => True) (fun _ => .tuple #[]) (fun _ => [A.blk b (K.wk (K.gc1 x V a n).1 m), A.blk e1 [.pointer (some ⟨b, 24, none⟩)], M.It m (K.gc1 x V a n).2 xs]) := by
 intro w oo aa hh
 refine E.enter (n := 30) (S := oo) Tryz.func82 rfl rfl Nz.k (A.start (L := [(b, (K.wk x m)), (e1, [E.pj b 24])]) hh) (E.sr (E.op (E.pt b) (E.op (E.pt b) (E.op (E.pj b 57) (E.li (.func (.method "Load") #[.iface 35 (E.pt m)] #[]) 0 rfl rfl (E.op (E.u a) (E.op (E.i n) (E.ca (.tuple #[E.u ((V.load (a).toNat n).1), E.u (Zoosa V a n), .bool ((V.load (a).toNat n).2.2)]) (fun w h => A.cq [2] [0, 1] (I_Load a n ha (m := m) (V := V) (xs := xs)) h) (E.op (.tuple #[E.u ((V.load (a).toNat n).1), E.u (Zoosa V a n), .bool ((V.load (a).toNat n).2.2)]) (E.op (E.u ((V.load (a).toNat n).1)) (E.op (E.u (Zoosa V a n)) ?_)))))))))))
 refine E.op (.bool ((V.load (a).toNat n).2.2)) (E.op (E.u ((V.load (a).toNat n).1)) (E.op (E.u (Zoosa V a n)) (E.op (.bool ((V.load (a).toNat n).2.2)) (E.To.code (E.wk [(0, E.pt b), (3, .func (.func 92) #[] #[E.pt e1]), (8, E.u ((V.load (a).toNat n).1)), (9, E.u (Zoosa V a n)), (10, .bool ((V.load (a).toNat n).2.2))] [(b, (K.wk x m)), (e1, [E.pj b 24])] Nz.sub (E.C.seq (E.sr (E.op (.bool ((V.load (a).toNat n).2.2)) (E.op (.bool (!((V.load (a).toNat n).2.2))) (E.To.code (E.cd (!((V.load (a).toNat n).2.2)) (fun hc1 => ?_) (fun hc1 => ?_))))))))))))
 ·
  refine E.sr (E.op (E.pt b) (E.op (E.u (Zoosa V a n)) (A.gc (fun _ => .tuple #[]) (Fault (b := b) (m := m) x (Zoosa V a n)) [0] [1, 2] [0, 1, 2] (fun _ => [(b, (K.wk (K.fault x (Zoosa V a n)) m)), (e1, [E.pj b 24])]) (fun _ => [M.It m V xs]) (fun _ hd2 => E.To.code (E.wk [(3, .func (.func 92) #[] #[E.pt e1]), (8, E.u ((V.load (a).toNat n).1))] [(b, (K.wk (K.fault x (Zoosa V a n)) m)), (e1, [E.pj b 24])] Nz.sub (E.C.ret (E.P.rt (E.To.body (fn := Tryz.f82) [] ?_ ?_))))))))
  · exact trivial
  intro w h
  have e : (K.gc1 x V a n) = (K.fault x (Zoosa V a n), V) := by unfold K.gc1; rw [hc1, N1] <;> rfl
  rw [e]
  exact ⟨(), trivial, rfl, A.dq [0, 1, 2] [] h⟩
 refine E.C.skip (E.To.code (E.C.region (E.op (.func (.func 92) #[] #[E.pt e1]) (E.op (E.u ((V.load (a).toNat n).1)) (A.gc (fun _ => .tuple #[]) (Co1 (b := b) (m := m) (e1 := e1) x ((V.load (a).toNat n).1) ) [0, 1] [2] [0, 1, 2] (fun _ => [(b, (K.wk (K.c1 x ((V.load (a).toNat n).1)) m)), (e1, [E.pj b 24])]) (fun _ => [M.It m V xs]) (fun _ hd3 => E.To.bodyN (fn := Tryz.f82) [] ?_ ?_))))))
 · exact trivial
 intro w h
 have e : (K.gc1 x V a n) = (K.c1 x ((V.load (a).toNat n).1), V) := by unfold K.gc1; rw [hc1, N0] <;> rfl
 rw [e]
 exact ⟨(), trivial, rfl, A.dq [0, 1, 2] [] h⟩
def K.push (x : K.W) (V : M.V) (v : Int) : K.W × M.V := ((K.put (⟨x.u, ⟨x.s.pc, (Q.up x.s.r 7 (IntKind.wrap .u32 ((x.u.r 7) - 4))), x.s.f, x.s.c, x.s.st, x.s.du⟩, x.i, x.k, x.t⟩ : K.W) V (IntKind.wrap .u32 ((x.u.r 7) - 4)) 4 v).1, (K.put (⟨x.u, ⟨x.s.pc, (Q.up x.s.r 7 (IntKind.wrap .u32 ((x.u.r 7) - 4))), x.s.f, x.s.c, x.s.st, x.s.du⟩, x.i, x.k, x.t⟩ : K.W) V (IntKind.wrap .u32 ((x.u.r 7) - 4)) 4 v).2)
abbrev Z8hfb (x : K.W) := IntKind.wrap .u32 ((x.u.r 7) - 4)
abbrev Z8hfa (x : K.W) := (⟨x.u, ⟨x.s.pc, (Q.up x.s.r 7 (Z8hfb x)), x.s.f, x.s.c, x.s.st, x.s.du⟩, x.i, x.k, x.t⟩ : K.W)
theorem Push_w {b m : Nat} {xs : List Value} (x : K.W) (V : M.V) (v : Int)  : A.Tr Tryz.prog 88 #[.pointer (some ⟨b, 0, none⟩), .int .u32 v] [A.blk b (K.wk x m), M.It m V xs] (I := Unit) (fun _ => True) (fun _ => .tuple #[]) (fun _ => [A.blk b (K.wk (K.push x V v).1 m), M.It m (K.push x V v).2 xs]) := by
 intro w oo aa hh
 refine E.enter (n := 25) (S := oo) Tryz.func88 rfl rfl Nz.k (A.start (L := [(b, (K.wk x m))]) hh) (E.C.seq (E.C.held (E.Hp (oo) w (A.X w oo aa [M.It m V xs]) []) Nz.k (E.ta 0 (E.pt b) rfl (E.ta 1 (E.pt b) rfl (E.ta 2 (E.pt b) rfl (E.ta 3 (E.pt b) rfl (E.ta 4 (E.pj b 1) rfl (E.ta 5 (E.pj b 8) rfl (E.ta 8 (E.pt b) rfl (E.ta 9 (E.pj b 24) rfl (E.ta 10 (E.pj b 25) rfl ?_)))))))))))
 refine E.al 6 rfl (E.li (E.u (x.u.r 7)) 0 rfl rfl (E.bk (E.ta 7 (E.u (Z8hfb x)) rfl (E.ta 11 (E.pj b 32) rfl (E.al 12 rfl (E.st 0 (K.wk (⟨x.u, ⟨x.s.pc, (Q.up x.s.r 7 (Z8hfb x)), x.s.f, x.s.c, x.s.st, x.s.du⟩, x.i, x.k, x.t⟩) m) rfl rfl (E.bk (E.H.done Nz.k (E.To.code (E.wk [(0, E.pt b), (1, E.u v)] [(b, (K.wk (⟨x.u, ⟨x.s.pc, (Q.up x.s.r 7 (Z8hfb x)), x.s.f, x.s.c, x.s.st, x.s.du⟩, x.i, x.k, x.t⟩) m))] Nz.sub (E.C.region ?_)))))))))))
 refine E.op (E.pt b) (E.op (E.pt b) (E.op (E.pt b) (E.op (E.pj b 24) (E.op (E.pj b 25) (E.op (E.pj b 32) (E.li (E.u (Z8hfb x)) 0 rfl rfl (E.op (E.u v) (A.gc (fun _ => .tuple #[]) (Put_w (b := b) (m := m) (xs := xs) (Z8hfa x) V (Z8hfb x) 4 v (Q.wrap_bd _)) [0, 1] [] [0, 1] (fun _ => [(b, (K.wk ((K.put (Z8hfa x) V (Z8hfb x) 4 v).1) m))]) (fun _ => [M.It m ((K.put (Z8hfa x) V (Z8hfb x) 4 v).2) xs]) (fun _ hd1 => E.To.bodyN (fn := Tryz.f88) [] ?_ ?_)))))))))
 · exact trivial
 intro w h
 have e : (K.push x V v) = ((K.put (Z8hfa x) V (Z8hfb x) 4 v).1, (K.put (Z8hfa x) V (Z8hfb x) 4 v).2) := by unfold K.push; rfl
 rw [e]
 exact ⟨(), trivial, rfl, A.dq [0, 1] [] h⟩
def K.ps1 (x : K.W) (V : M.V) (D : Int) : K.W × M.V := ((K.gs1 (⟨x.u, ⟨x.s.pc, (Q.up x.s.r 7 (IntKind.wrap .u32 ((x.u.r 7) + 4))), x.s.f, x.s.c, x.s.st, x.s.du⟩, x.i, x.k, x.t⟩ : K.W) V (x.u.r 7) 4 D).1, (K.gs1 (⟨x.u, ⟨x.s.pc, (Q.up x.s.r 7 (IntKind.wrap .u32 ((x.u.r 7) + 4))), x.s.f, x.s.c, x.s.st, x.s.du⟩, x.i, x.k, x.t⟩ : K.W) V (x.u.r 7) 4 D).2)
abbrev Zlnaa (x : K.W) := (⟨x.u, ⟨x.s.pc, (Q.up x.s.r 7 (IntKind.wrap .u32 ((x.u.r 7) + 4))), x.s.f, x.s.c, x.s.st, x.s.du⟩, x.i, x.k, x.t⟩ : K.W)
abbrev Zlnab (x : K.W) (m : Nat) := K.wk (⟨x.u, ⟨x.s.pc, (Q.up x.s.r 7 (IntKind.wrap .u32 ((x.u.r 7) + 4))), x.s.f, x.s.c, x.s.st, x.s.du⟩, x.i, x.k, x.t⟩) m
theorem Pop_Si1 {b m e1 : Nat} {xs : List Value} (x : K.W) (V : M.V) (D : Int) (hx : K.wf x) (hV : R.Wf V) (hD : 0 ≤ D ∧ D < ((16 : Nat) : Int)) : A.Tr Tryz.prog 89 #[.pointer (some ⟨b, 0, none⟩), .func (.func 90) #[] #[.pointer (some ⟨e1, 0, none⟩)]] [A.blk b (K.wk x m), A.blk e1 [.pointer (some ⟨b, 25 + (D).toNat, none⟩)], M.It m V xs] (I := Unit) (fun _ => True) (fun _ => .tuple #[]) (fun _ => [A.blk b (K.wk (K.ps1 x V D).1 m), A.blk e1 [.pointer (some ⟨b, 25 + (D).toNat, none⟩)], M.It m (K.ps1 x V D).2 xs]) := by
 intro w oo aa hh
 refine E.enter (n := 25) (S := oo) Tryz.func89 rfl rfl Nz.k (A.start (L := [(b, (K.wk x m)), (e1, [E.pj b (25 + (D).toNat)])]) hh) (E.C.seq (E.C.held (E.Hp (oo) w (A.X w oo aa [M.It m V xs]) [(e1, [E.pj b (25 + (D).toNat)])]) Nz.k (E.ta 0 (E.pt b) rfl (E.ta 1 (E.pt b) rfl (E.ta 2 (E.pt b) rfl (E.ta 3 (E.pt b) rfl (E.ta 4 (E.pj b 1) rfl (E.ta 5 (E.pj b 8) rfl (E.ta 8 (E.pt b) rfl (E.ta 9 (E.pj b 24) rfl (E.ta 10 (E.pj b 25) rfl ?_)))))))))))
 refine E.al 6 rfl (E.li (E.u (x.u.r 7)) 0 rfl rfl (E.bk (E.ta 7 (E.u (IntKind.wrap .u32 ((x.u.r 7) + 4))) rfl (E.ta 11 (E.pj b 32) rfl (E.al 12 rfl (E.st 0 (Zlnab x m) rfl rfl (E.bk (E.H.done Nz.k (E.To.code (E.wk [(0, E.pt b), (1, .func (.func 90) #[] #[E.pt e1])] [(b, (Zlnab x m)), (e1, [E.pj b (25 + (D).toNat)])] Nz.sub (E.C.region ?_)))))))))))
 refine E.op (E.pt b) (E.op (E.pt b) (E.op (E.pt b) (E.op (E.pt b) (E.op (E.pj b 1) (E.op (E.pj b 8) (E.li (E.u (x.u.r 7)) 0 rfl rfl (E.op (.func (.func 90) #[] #[E.pt e1]) (A.gc (fun _ => .tuple #[]) (Get_Si1 (b := b) (m := m) (e1 := e1) (xs := xs) (Zlnaa x) V (x.u.r 7) 4 D (hx.u.r _) hV hD) [0, 1, 2] [] [0, 1, 2] (fun _ => [(b, (K.wk ((K.gs1 (Zlnaa x) V (x.u.r 7) 4 D).1) m)), (e1, [E.pj b (25 + (D).toNat)])]) (fun _ => [M.It m ((K.gs1 (Zlnaa x) V (x.u.r 7) 4 D).2) xs]) (fun _ hd1 => E.To.bodyN (fn := Tryz.f89) [] ?_ ?_)))))))))
 · exact trivial
 intro w h
 have e : (K.ps1 x V D) = ((K.gs1 (Zlnaa x) V (x.u.r 7) 4 D).1, (K.gs1 (Zlnaa x) V (x.u.r 7) 4 D).2) := by unfold K.ps1; rfl
 rw [e]
 exact ⟨(), trivial, rfl, A.dq [0, 1, 2] [] h⟩
def K.pc1 (x : K.W) (V : M.V)  : K.W × M.V := ((K.gc1 (⟨x.u, ⟨x.s.pc, (Q.up x.s.r 7 (IntKind.wrap .u32 ((x.u.r 7) + 4))), x.s.f, x.s.c, x.s.st, x.s.du⟩, x.i, x.k, x.t⟩ : K.W) V (x.u.r 7) 4).1, (K.gc1 (⟨x.u, ⟨x.s.pc, (Q.up x.s.r 7 (IntKind.wrap .u32 ((x.u.r 7) + 4))), x.s.f, x.s.c, x.s.st, x.s.du⟩, x.i, x.k, x.t⟩ : K.W) V (x.u.r 7) 4).2)
abbrev Zws6a (x : K.W) := (⟨x.u, ⟨x.s.pc, (Q.up x.s.r 7 (IntKind.wrap .u32 ((x.u.r 7) + 4))), x.s.f, x.s.c, x.s.st, x.s.du⟩, x.i, x.k, x.t⟩ : K.W)
abbrev Zws6b (x : K.W) (m : Nat) := K.wk (⟨x.u, ⟨x.s.pc, (Q.up x.s.r 7 (IntKind.wrap .u32 ((x.u.r 7) + 4))), x.s.f, x.s.c, x.s.st, x.s.du⟩, x.i, x.k, x.t⟩) m
theorem Pop_Co1 {b m e1 : Nat} {xs : List Value} (x : K.W) (V : M.V)  (hx : K.wf x) (hV : R.Wf V)  : A.Tr Tryz.prog 89 #[.pointer (some ⟨b, 0, none⟩), .func (.func 92) #[] #[.pointer (some ⟨e1, 0, none⟩)]] [A.blk b (K.wk x m), A.blk e1 [.pointer (some ⟨b, 24, none⟩)], M.It m V xs] (I := Unit) (fun _ => True) (fun _ => .tuple #[]) (fun _ => [A.blk b (K.wk (K.pc1 x V).1 m), A.blk e1 [.pointer (some ⟨b, 24, none⟩)], M.It m (K.pc1 x V).2 xs]) := by
 intro w oo aa hh
 refine E.enter (n := 25) (S := oo) Tryz.func89 rfl rfl Nz.k (A.start (L := [(b, (K.wk x m)), (e1, [E.pj b 24])]) hh) (E.C.seq (E.C.held (E.Hp (oo) w (A.X w oo aa [M.It m V xs]) [(e1, [E.pj b 24])]) Nz.k (E.ta 0 (E.pt b) rfl (E.ta 1 (E.pt b) rfl (E.ta 2 (E.pt b) rfl (E.ta 3 (E.pt b) rfl (E.ta 4 (E.pj b 1) rfl (E.ta 5 (E.pj b 8) rfl (E.ta 8 (E.pt b) rfl (E.ta 9 (E.pj b 24) rfl (E.ta 10 (E.pj b 25) rfl ?_)))))))))))
 refine E.al 6 rfl (E.li (E.u (x.u.r 7)) 0 rfl rfl (E.bk (E.ta 7 (E.u (IntKind.wrap .u32 ((x.u.r 7) + 4))) rfl (E.ta 11 (E.pj b 32) rfl (E.al 12 rfl (E.st 0 (Zws6b x m) rfl rfl (E.bk (E.H.done Nz.k (E.To.code (E.wk [(0, E.pt b), (1, .func (.func 92) #[] #[E.pt e1])] [(b, (Zws6b x m)), (e1, [E.pj b 24])] Nz.sub (E.C.region ?_)))))))))))
 refine E.op (E.pt b) (E.op (E.pt b) (E.op (E.pt b) (E.op (E.pt b) (E.op (E.pj b 1) (E.op (E.pj b 8) (E.li (E.u (x.u.r 7)) 0 rfl rfl (E.op (.func (.func 92) #[] #[E.pt e1]) (A.gc (fun _ => .tuple #[]) (Get_Co1 (b := b) (m := m) (e1 := e1) (xs := xs) (Zws6a x) V (x.u.r 7) 4 (hx.u.r _) hV ) [0, 1, 2] [] [0, 1, 2] (fun _ => [(b, (K.wk ((K.gc1 (Zws6a x) V (x.u.r 7) 4).1) m)), (e1, [E.pj b 24])]) (fun _ => [M.It m ((K.gc1 (Zws6a x) V (x.u.r 7) 4).2) xs]) (fun _ hd1 => E.To.bodyN (fn := Tryz.f89) [] ?_ ?_)))))))))
 · exact trivial
 intro w h
 have e : (K.pc1 x V) = ((K.gc1 (Zws6a x) V (x.u.r 7) 4).1, (K.gc1 (Zws6a x) V (x.u.r 7) 4).2) := by unfold K.pc1; rfl
 rw [e]
 exact ⟨(), trivial, rfl, A.dq [0, 1, 2] [] h⟩
def K.single (x : K.W) (V : M.V)  : K.W × M.V := (bif (x.i.op == 16) then ((K.push x V (x.s.r ((x.i.d).toNat))).1, (K.push x V (x.s.r ((x.i.d).toNat))).2) else (bif (x.i.op == 17) then ((K.ps1 x V x.i.d).1, (K.ps1 x V x.i.d).2) else (bif (x.i.op == 18) then (⟨((K.flags x 3 0 (x.s.r ((x.i.d).toNat))).u), ⟨((K.flags x 3 0 (x.s.r ((x.i.d).toNat))).s).pc, (Q.up (((K.flags x 3 0 (x.s.r ((x.i.d).toNat))).s).r) (x.i.d).toNat (IntKind.wrap .u32 (0 - (x.s.r ((x.i.d).toNat))))), ((K.flags x 3 0 (x.s.r ((x.i.d).toNat))).s).f, ((K.flags x 3 0 (x.s.r ((x.i.d).toNat))).s).c, ((K.flags x 3 0 (x.s.r ((x.i.d).toNat))).s).st, ((K.flags x 3 0 (x.s.r ((x.i.d).toNat))).s).du⟩, ((K.flags x 3 0 (x.s.r ((x.i.d).toNat))).i), (K.flags x 3 0 (x.s.r ((x.i.d).toNat))).k, (K.flags x 3 0 (x.s.r ((x.i.d).toNat))).t⟩, V) else (bif (x.i.op == 19) then (⟨((K.flags x 5 (bits .xor .u32 4294967295 (x.s.r ((x.i.d).toNat))) 0).u), ⟨((K.flags x 5 (bits .xor .u32 4294967295 (x.s.r ((x.i.d).toNat))) 0).s).pc, (Q.up (((K.flags x 5 (bits .xor .u32 4294967295 (x.s.r ((x.i.d).toNat))) 0).s).r) (x.i.d).toNat (bits .xor .u32 4294967295 (x.s.r ((x.i.d).toNat)))), ((K.flags x 5 (bits .xor .u32 4294967295 (x.s.r ((x.i.d).toNat))) 0).s).f, ((K.flags x 5 (bits .xor .u32 4294967295 (x.s.r ((x.i.d).toNat))) 0).s).c, ((K.flags x 5 (bits .xor .u32 4294967295 (x.s.r ((x.i.d).toNat))) 0).s).st, ((K.flags x 5 (bits .xor .u32 4294967295 (x.s.r ((x.i.d).toNat))) 0).s).du⟩, ((K.flags x 5 (bits .xor .u32 4294967295 (x.s.r ((x.i.d).toNat))) 0).i), (K.flags x 5 (bits .xor .u32 4294967295 (x.s.r ((x.i.d).toNat))) 0).k, (K.flags x 5 (bits .xor .u32 4294967295 (x.s.r ((x.i.d).toNat))) 0).t⟩, V) else (bif (x.i.op == 21) then (⟨(((K.push x V x.s.pc).1).u), ⟨(x.s.r ((x.i.d).toNat)), (((K.push x V x.s.pc).1).s).r, (((K.push x V x.s.pc).1).s).f, (((K.push x V x.s.pc).1).s).c, (((K.push x V x.s.pc).1).s).st, (((K.push x V x.s.pc).1).s).du⟩, (((K.push x V x.s.pc).1).i), ((K.push x V x.s.pc).1).k, ((K.push x V x.s.pc).1).t⟩, (K.push x V x.s.pc).2) else (bif (x.i.op == 20) then (⟨x.u, ⟨(x.s.r ((x.i.d).toNat)), x.s.r, x.s.f, x.s.c, x.s.st, x.s.du⟩, x.i, x.k, x.t⟩, V) else (x, V)))))))
abbrev Zu47a (x : K.W) := E.u (x.s.r ((x.i.d).toNat))
abbrev Zu47b (x : K.W) := Q.up (((K.flags x 5 (bits .xor .u32 4294967295 (x.s.r ((x.i.d).toNat))) 0).s).r) (x.i.d).toNat (bits .xor .u32 4294967295 (x.s.r ((x.i.d).toNat)))
abbrev Zu47c (b : Nat) (x : K.W) : List Value := [E.pj b (25 + (x.i.d).toNat)]
abbrev Zu47d (x : K.W) (m : Nat) := K.wk (K.flags x 5 (bits .xor .u32 4294967295 (x.s.r ((x.i.d).toNat))) 0) m
abbrev Zu47e (x : K.W) := Q.up (((K.flags x 3 0 (x.s.r ((x.i.d).toNat))).s).r) (x.i.d).toNat (IntKind.wrap .u32 (0 - (x.s.r ((x.i.d).toNat))))
abbrev Zu47f (b : Nat) (x : K.W) := E.pj b (25 + (x.i.d).toNat)
set_option maxHeartbeats 1000000 in
theorem Single_w {b m : Nat} {xs : List Value} (x : K.W) (V : M.V)  (hx : K.wf x) (hi : K.iok x.i) (hV : R.Wf V) : A.Tr Tryz.prog 55 #[.pointer (some ⟨b, 0, none⟩)] [A.blk b (K.wk x m), M.It m V xs] (I := Unit) (fun _ => True) (fun _ => .tuple #[]) (fun _ => [A.blk b (K.wk (K.single x V).1 m), M.It m (K.single x V).2 xs]) := by
 intro w oo aa hh
 refine E.enter (n := 72) (S := oo) Tryz.func55 rfl rfl Nz.k (A.start (L := [(b, (K.wk x m))]) hh) (E.C.seq (E.C.held (E.Hp (oo) w (A.X w oo aa [M.It m V xs]) [(b, (K.wk x m))]) Nz.k (E.tk 0 (E.pt b) rfl (fun w h => h) (E.tk 1 (E.pt b) rfl (fun w h => h) (E.tk 2 (E.pt b) rfl (fun w h => h) (E.tk 3 (E.pj b 48) rfl (fun w h => h) (E.tk 4 (E.pj b 49) rfl (fun w h => h) (E.tj 5 (E.i x.i.d) rfl (fun w h => h) (fun w h => E.run_load h 0 rfl rfl Nz.k) (E.tk 6 (E.pt b) rfl (fun w h => h) (E.tk 7 (E.pj b 24) rfl (fun w h => h) (E.tk 8 (E.pj b 25) rfl (fun w h => h) ?_)))))))))))
 refine E.tj 9 (Zu47f b x) rfl (fun w h => h) (fun w h => E.idxI (e := 22) b 25 16 .i64 x.i.d Nz.k Nz.k Nz.k Nz.k (by have := hi.d; omega) w) (E.al 10 rfl (E.nw [.pointer none] 142 (fun g1 => E.bk (E.al 11 rfl (E.st 0 (Zu47c b x) rfl rfl (E.bk (E.H.done Nz.k (E.To.code (E.wk [(0, E.pt b), (2, E.pt g1)] [(g1, (Zu47c b x)), (b, (K.wk x m))] Nz.sub (E.sr (E.li (Zu47f b x) 0 rfl rfl ?_)))))))))))
 refine E.op (Zu47f b x) (E.vl (Zu47a x) (fun w h => E.run_load h 1 rfl rfl (K.ld_s Nz.k (by have := hi.d; omega))) (E.op (Zu47a x) (E.tr (E.op (E.pt b) (E.op (E.pt b) (E.op (E.pj b 48) (E.op (E.pj b 48) (E.li (E.i x.i.op) 1 rfl rfl (E.To.code (E.C.block (E.sr ?_)))))))))))
 refine E.op (.bool (x.i.op == 16)) (E.op (.bool (x.i.op == 16)) (E.To.code (E.wk [(0, E.pt b), (2, E.pt g1), (3, E.u (x.s.r ((x.i.d).toNat))), (21, E.i x.i.op), (22, .bool (x.i.op == 16))] [(g1, (Zu47c b x)), (b, (K.wk x m))] Nz.sub (E.cd (x.i.op == 16) (fun hc2 => ?_) (fun hc2 => ?_)))))
 ·
  refine E.C.region (E.op (E.pt b) (E.op (Zu47a x) (A.gc (fun _ => .tuple #[]) (Push_w (b := b) (m := m) (xs := xs) x V (x.s.r ((x.i.d).toNat))) [1, 2] [0] [0, 2, 1] (fun _ => [(b, (K.wk ((K.push x V (x.s.r ((x.i.d).toNat))).1) m)), (g1, (Zu47c b x))]) (fun _ => [M.It m ((K.push x V (x.s.r ((x.i.d).toNat))).2) xs]) (fun _ hd3 => E.P.nb (E.To.bodyN (fn := Tryz.f55) [] ?_ ?_)))))
  · exact trivial
  intro w h
  have e : (K.single x V) = ((K.push x V (x.s.r ((x.i.d).toNat))).1, (K.push x V (x.s.r ((x.i.d).toNat))).2) := by unfold K.single; rw [hc2, N1] <;> rfl
  rw [e]
  exact ⟨(), trivial, rfl, A.dq [0, 2] [1] h⟩
 refine E.sr (E.op (.bool (x.i.op == 17)) (E.op (.bool (x.i.op == 17)) (E.To.code (E.cd (x.i.op == 17) (fun hc4 => ?_) (fun hc4 => ?_)))))
 ·
  refine E.C.region (E.op (E.pt b) (E.op (.func (.func 90) #[] #[E.pt g1]) (A.gc (q := fun _ => [A.blk b (K.wk ((K.ps1 x V x.i.d).1) m), A.blk g1 ((Zu47c b x)), M.It m ((K.ps1 x V x.i.d).2) xs]) (fun _ => .tuple #[]) (Pop_Si1 (b := b) (m := m) (e1 := g1) (xs := xs) x V x.i.d hx hV (by have := hi.d; omega)) [1, 0, 2] [] [0, 1, 2] (fun _ => [(b, (K.wk ((K.ps1 x V x.i.d).1) m)), (g1, (Zu47c b x))]) (fun _ => [M.It m ((K.ps1 x V x.i.d).2) xs]) (fun _ hd5 => E.P.nb (E.To.bodyN (fn := Tryz.f55) [] ?_ ?_)))))
  · exact trivial
  intro w h
  have e : (K.single x V) = ((K.ps1 x V x.i.d).1, (K.ps1 x V x.i.d).2) := by unfold K.single; rw [hc2, N0, hc4, N1] <;> rfl
  rw [e]
  exact ⟨(), trivial, rfl, A.dq [0, 2] [1] h⟩
 refine E.sr (E.op (.bool (x.i.op == 18)) (E.op (.bool (x.i.op == 18)) (E.To.code (E.cd (x.i.op == 18) (fun hc6 => ?_) (fun hc6 => ?_)))))
 ·
  refine E.sr (E.op (E.pt b) (E.op (Zu47a x) (A.gc (q := fun _ => [A.blk b (K.wk (K.flags x 3 0 (x.s.r ((x.i.d).toNat))) m)]) (fun _ => .tuple #[]) (Flags_w (b := b) (m := m) x 3 0 (x.s.r ((x.i.d).toNat)) (by decide) (hx.s.r _)) [1] [0, 2] [0, 1, 2] (fun _ => [(b, (K.wk (K.flags x 3 0 (x.s.r ((x.i.d).toNat))) m)), (g1, (Zu47c b x))]) (fun _ => [M.It m V xs]) (fun _ hd7 => E.To.code (E.wk [(2, E.pt g1), (3, E.u (x.s.r ((x.i.d).toNat)))] [(b, (K.wk (K.flags x 3 0 (x.s.r ((x.i.d).toNat))) m)), (g1, (Zu47c b x))] Nz.sub (E.C.region (E.li (Zu47f b x) 1 rfl rfl (E.op (Zu47a x) (E.op (E.u (IntKind.wrap .u32 (0 - (x.s.r ((x.i.d).toNat))))) (E.op (Zu47f b x) (E.G.store 0 (K.wk (⟨((K.flags x 3 0 (x.s.r ((x.i.d).toNat))).u), ⟨((K.flags x 3 0 (x.s.r ((x.i.d).toNat))).s).pc, (Zu47e x), ((K.flags x 3 0 (x.s.r ((x.i.d).toNat))).s).f, ((K.flags x 3 0 (x.s.r ((x.i.d).toNat))).s).c, ((K.flags x 3 0 (x.s.r ((x.i.d).toNat))).s).st, ((K.flags x 3 0 (x.s.r ((x.i.d).toNat))).s).du⟩, ((K.flags x 3 0 (x.s.r ((x.i.d).toNat))).i), (K.flags x 3 0 (x.s.r ((x.i.d).toNat))).k, (K.flags x 3 0 (x.s.r ((x.i.d).toNat))).t⟩) m) rfl rfl (K.sto_s (x := K.flags x 3 0 (x.s.r ((x.i.d).toNat))) Nz.k (by have := hi.d; omega)) Nz.k ?_)))))))))))
  refine E.P.nb (E.To.bodyN (fn := Tryz.f55) [] ?_ ?_)
  · exact trivial
  intro w h
  have e : (K.single x V) = (⟨((K.flags x 3 0 (x.s.r ((x.i.d).toNat))).u), ⟨((K.flags x 3 0 (x.s.r ((x.i.d).toNat))).s).pc, (Zu47e x), ((K.flags x 3 0 (x.s.r ((x.i.d).toNat))).s).f, ((K.flags x 3 0 (x.s.r ((x.i.d).toNat))).s).c, ((K.flags x 3 0 (x.s.r ((x.i.d).toNat))).s).st, ((K.flags x 3 0 (x.s.r ((x.i.d).toNat))).s).du⟩, ((K.flags x 3 0 (x.s.r ((x.i.d).toNat))).i), (K.flags x 3 0 (x.s.r ((x.i.d).toNat))).k, (K.flags x 3 0 (x.s.r ((x.i.d).toNat))).t⟩, V) := by unfold K.single; rw [hc2, N0, hc4, N0, hc6, N1] <;> rfl
  rw [e]
  exact ⟨(), trivial, rfl, A.dq [0, 2] [1] h⟩
 refine E.sr (E.op (.bool (x.i.op == 19)) (E.op (.bool (x.i.op == 19)) (E.To.code (E.cd (x.i.op == 19) (fun hc8 => ?_) (fun hc8 => ?_)))))
 ·
  refine E.sr (E.op (E.pt b) (E.op (Zu47a x) (E.op (E.u (bits .xor .u32 4294967295 (x.s.r ((x.i.d).toNat)))) (A.gc (q := fun _ => [A.blk b (Zu47d x m)]) (fun _ => .tuple #[]) (Flags_w (b := b) (m := m) x 5 (bits .xor .u32 4294967295 (x.s.r ((x.i.d).toNat))) 0 (W.bits_bd _ _ _) (by decide)) [1] [0, 2] [0, 1, 2] (fun _ => [(b, (Zu47d x m)), (g1, (Zu47c b x))]) (fun _ => [M.It m V xs]) (fun _ hd9 => E.To.code (E.wk [(2, E.pt g1), (3, E.u (x.s.r ((x.i.d).toNat)))] [(b, (Zu47d x m)), (g1, (Zu47c b x))] Nz.sub (E.C.region (E.li (Zu47f b x) 1 rfl rfl (E.op (Zu47a x) (E.op (E.u (bits .xor .u32 4294967295 (x.s.r ((x.i.d).toNat)))) (E.op (Zu47f b x) ?_)))))))))))
  refine E.G.store 0 (K.wk (⟨((K.flags x 5 (bits .xor .u32 4294967295 (x.s.r ((x.i.d).toNat))) 0).u), ⟨((K.flags x 5 (bits .xor .u32 4294967295 (x.s.r ((x.i.d).toNat))) 0).s).pc, (Zu47b x), ((K.flags x 5 (bits .xor .u32 4294967295 (x.s.r ((x.i.d).toNat))) 0).s).f, ((K.flags x 5 (bits .xor .u32 4294967295 (x.s.r ((x.i.d).toNat))) 0).s).c, ((K.flags x 5 (bits .xor .u32 4294967295 (x.s.r ((x.i.d).toNat))) 0).s).st, ((K.flags x 5 (bits .xor .u32 4294967295 (x.s.r ((x.i.d).toNat))) 0).s).du⟩, ((K.flags x 5 (bits .xor .u32 4294967295 (x.s.r ((x.i.d).toNat))) 0).i), (K.flags x 5 (bits .xor .u32 4294967295 (x.s.r ((x.i.d).toNat))) 0).k, (K.flags x 5 (bits .xor .u32 4294967295 (x.s.r ((x.i.d).toNat))) 0).t⟩) m) rfl rfl (K.sto_s (x := K.flags x 5 (bits .xor .u32 4294967295 (x.s.r ((x.i.d).toNat))) 0) Nz.k (by have := hi.d; omega)) Nz.k (E.P.nb (E.To.bodyN (fn := Tryz.f55) [] ?_ ?_))
  · exact trivial
  intro w h
  have e : (K.single x V) = (⟨((K.flags x 5 (bits .xor .u32 4294967295 (x.s.r ((x.i.d).toNat))) 0).u), ⟨((K.flags x 5 (bits .xor .u32 4294967295 (x.s.r ((x.i.d).toNat))) 0).s).pc, (Zu47b x), ((K.flags x 5 (bits .xor .u32 4294967295 (x.s.r ((x.i.d).toNat))) 0).s).f, ((K.flags x 5 (bits .xor .u32 4294967295 (x.s.r ((x.i.d).toNat))) 0).s).c, ((K.flags x 5 (bits .xor .u32 4294967295 (x.s.r ((x.i.d).toNat))) 0).s).st, ((K.flags x 5 (bits .xor .u32 4294967295 (x.s.r ((x.i.d).toNat))) 0).s).du⟩, ((K.flags x 5 (bits .xor .u32 4294967295 (x.s.r ((x.i.d).toNat))) 0).i), (K.flags x 5 (bits .xor .u32 4294967295 (x.s.r ((x.i.d).toNat))) 0).k, (K.flags x 5 (bits .xor .u32 4294967295 (x.s.r ((x.i.d).toNat))) 0).t⟩, V) := by unfold K.single; rw [hc2, N0, hc4, N0, hc6, N0, hc8, N1] <;> rfl
  rw [e]
  exact ⟨(), trivial, rfl, A.dq [0, 2] [1] h⟩
 refine E.sr (E.op (.bool (x.i.op == 21)) (E.op (.bool (x.i.op == 21)) (E.To.code (E.wk [(0, E.pt b), (3, E.u (x.s.r ((x.i.d).toNat))), (21, E.i x.i.op), (51, .bool (x.i.op == 21))] [(b, (K.wk x m))] Nz.sub (E.cd (x.i.op == 21) (fun hc10 => ?_) (fun hc10 => ?_))))))
 ·
  refine E.sr (E.op (E.pt b) (E.op (E.pt b) (E.op (E.pt b) (E.op (E.pj b 24) (E.op (E.pj b 24) (E.li (E.u x.s.pc) 0 rfl rfl (A.gc (fun _ => .tuple #[]) (Push_w (b := b) (m := m) (xs := xs) x V x.s.pc) [0, 1] [] [0, 1] (fun _ => [(b, (K.wk ((K.push x V x.s.pc).1) m))]) (fun _ => [M.It m ((K.push x V x.s.pc).2) xs]) (fun _ hd11 => E.To.code (E.wk [(0, E.pt b), (3, E.u (x.s.r ((x.i.d).toNat)))] [(b, (K.wk ((K.push x V x.s.pc).1) m))] Nz.sub (E.C.region (E.op (E.pt b) ?_)))))))))))
  refine E.op (Zu47a x) (E.op (E.pt b) (E.op (E.pj b 24) (E.op (E.pj b 24) (E.st 0 (K.wk (⟨(((K.push x V x.s.pc).1).u), ⟨(x.s.r ((x.i.d).toNat)), (((K.push x V x.s.pc).1).s).r, (((K.push x V x.s.pc).1).s).f, (((K.push x V x.s.pc).1).s).c, (((K.push x V x.s.pc).1).s).st, (((K.push x V x.s.pc).1).s).du⟩, (((K.push x V x.s.pc).1).i), ((K.push x V x.s.pc).1).k, ((K.push x V x.s.pc).1).t⟩) m) rfl rfl (E.P.nb (E.To.bodyN (fn := Tryz.f55) [] ?_ ?_))))))
  · exact trivial
  intro w h
  have e : (K.single x V) = (⟨(((K.push x V x.s.pc).1).u), ⟨(x.s.r ((x.i.d).toNat)), (((K.push x V x.s.pc).1).s).r, (((K.push x V x.s.pc).1).s).f, (((K.push x V x.s.pc).1).s).c, (((K.push x V x.s.pc).1).s).st, (((K.push x V x.s.pc).1).s).du⟩, (((K.push x V x.s.pc).1).i), ((K.push x V x.s.pc).1).k, ((K.push x V x.s.pc).1).t⟩, (K.push x V x.s.pc).2) := by unfold K.single; rw [hc2, N0, hc4, N0, hc6, N0, hc8, N0, hc10, N1] <;> rfl
  rw [e]
  exact ⟨(), trivial, rfl, A.dq [0, 1] [] h⟩
 refine E.sr (E.op (.bool (x.i.op == 20)) (E.op (.bool (x.i.op == 20)) (E.To.code (E.cd (x.i.op == 20) (fun hc12 => ?_) (fun hc12 => ?_)))))
 ·
  refine E.C.region (E.op (E.pt b) (E.op (Zu47a x) (E.op (E.pt b) (E.op (E.pj b 24) (E.op (E.pj b 24) (E.st 0 (K.wk (⟨x.u, ⟨(x.s.r ((x.i.d).toNat)), x.s.r, x.s.f, x.s.c, x.s.st, x.s.du⟩, x.i, x.k, x.t⟩) m) rfl rfl (E.P.nb (E.To.bodyN (fn := Tryz.f55) [] ?_ ?_))))))))
  · exact trivial
  intro w h
  have e : (K.single x V) = (⟨x.u, ⟨(x.s.r ((x.i.d).toNat)), x.s.r, x.s.f, x.s.c, x.s.st, x.s.du⟩, x.i, x.k, x.t⟩, V) := by unfold K.single; rw [hc2, N0, hc4, N0, hc6, N0, hc8, N0, hc10, N0, hc12, N1] <;> rfl
  rw [e]
  exact ⟨(), trivial, rfl, A.dq [0, 1] [] h⟩
 refine E.C.skip (E.P.nb (E.To.bodyN (fn := Tryz.f55) [] ?_ ?_))
 · exact trivial
 intro w h
 have e : (K.single x V) = (x, V) := by unfold K.single; rw [hc2, N0, hc4, N0, hc6, N0, hc8, N0, hc10, N0, hc12, N0] <;> rfl
 rw [e]
 exact ⟨(), trivial, rfl, A.dq [0, 1] [] h⟩
def K.control (x : K.W) (V : M.V)  : K.W × M.V := (bif (x.i.op == 1) then ((K.pc1 x V ).1, (K.pc1 x V ).2) else (bif (x.i.op == 2) then (⟨x.u, x.s, x.i, 2, x.t⟩, V) else (bif (x.i.op == 3) then (⟨x.u, x.s, x.i, 3, x.t⟩, V) else (bif (x.i.op == 4) then (⟨x.u, ⟨(x.s.c 1), x.s.r, x.s.f, x.s.c, x.s.st, x.s.du⟩, x.i, x.k, x.t⟩, V) else (bif (x.i.op == 113) then (⟨(((K.push x V x.s.pc).1).u), ⟨(IntKind.wrap .u32 (((((K.push x V x.s.pc).1).s).pc) + x.i.imm)), (((K.push x V x.s.pc).1).s).r, (((K.push x V x.s.pc).1).s).f, (((K.push x V x.s.pc).1).s).c, (((K.push x V x.s.pc).1).s).st, (((K.push x V x.s.pc).1).s).du⟩, (((K.push x V x.s.pc).1).i), ((K.push x V x.s.pc).1).k, ((K.push x V x.s.pc).1).t⟩, (K.push x V x.s.pc).2) else (bif (x.i.op == 112) then (⟨x.u, ⟨(IntKind.wrap .u32 (x.s.pc + x.i.imm)), x.s.r, x.s.f, x.s.c, x.s.st, x.s.du⟩, x.i, x.k, x.t⟩, V) else (bif (x.i.op == 128) then (⟨x.u, x.s, x.i, 4, x.i.imm⟩, V) else (bif (x.i.op == 129) then (⟨x.u, ⟨x.s.pc, (Q.up x.s.r (x.i.d).toNat (x.s.c ((x.i.s).toNat))), x.s.f, x.s.c, x.s.st, x.s.du⟩, x.i, x.k, x.t⟩, V) else (bif (x.i.op == 130) then (bif (x.i.s == 0) then (⟨x.u, ⟨x.s.pc, x.s.r, x.s.f, (Q.up x.s.c (x.i.s).toNat (x.s.r ((x.i.d).toNat))), x.s.st, x.s.du⟩, x.i, x.k, x.t⟩, V) else (bif (x.i.s == 1) then (⟨x.u, ⟨x.s.pc, x.s.r, x.s.f, (Q.up x.s.c (x.i.s).toNat (x.s.r ((x.i.d).toNat))), x.s.st, x.s.du⟩, x.i, x.k, x.t⟩, V) else (bif (x.i.s == 4) then (bif ((x.s.r ((x.i.d).toNat)) != 0) then (⟨x.u, ⟨x.s.pc, x.s.r, x.s.f, x.s.c, x.s.st, (IntKind.wrap .i64 (x.s.st + (IntKind.wrap .i64 (x.s.r ((x.i.d).toNat)))))⟩, x.i, x.k, x.t⟩, V) else (⟨x.u, ⟨x.s.pc, x.s.r, x.s.f, x.s.c, x.s.st, 0⟩, x.i, x.k, x.t⟩, V)) else (x, V)))) else (x, V))))))))))
abbrev Zscwa (x : K.W) : List Value := [E.i x.i.op, E.i x.i.d, E.i x.i.s, E.i x.i.ix, E.i x.i.sc, E.u x.i.imm, E.i x.i.sz]
abbrev Zscwc (x : K.W) := IntKind.wrap .i64 (x.s.st + (IntKind.wrap .i64 (x.s.r ((x.i.d).toNat))))
abbrev Zscwe (x : K.W) := E.u (x.s.r ((x.i.d).toNat))
abbrev Zscwf (x : K.W) (V : M.V) := IntKind.wrap .u32 (((((K.push x V x.s.pc).1).s).pc) + x.i.imm)
abbrev Zscwd (x : K.W) (V : M.V) (m : Nat) := K.wk (⟨(((K.push x V x.s.pc).1).u), ⟨(Zscwf x V), (((K.push x V x.s.pc).1).s).r, (((K.push x V x.s.pc).1).s).f, (((K.push x V x.s.pc).1).s).c, (((K.push x V x.s.pc).1).s).st, (((K.push x V x.s.pc).1).s).du⟩, (((K.push x V x.s.pc).1).i), ((K.push x V x.s.pc).1).k, ((K.push x V x.s.pc).1).t⟩) m
abbrev Zscwg (x : K.W) (m : Nat) := K.wk (⟨x.u, ⟨x.s.pc, x.s.r, x.s.f, x.s.c, x.s.st, 0⟩, x.i, x.k, x.t⟩) m
abbrev Zscwh (x : K.W) := Q.up x.s.c (x.i.s).toNat (x.s.r ((x.i.d).toNat))
abbrev Zscwb (x : K.W) (m : Nat) := K.wk (⟨x.u, ⟨x.s.pc, x.s.r, x.s.f, (Zscwh x), x.s.st, x.s.du⟩, x.i, x.k, x.t⟩) m
abbrev Zscwi (x : K.W) := IntKind.wrap .u32 (x.s.pc + x.i.imm)
abbrev Zscwj (x : K.W) := Q.up x.s.r (x.i.d).toNat (x.s.c ((x.i.s).toNat))
set_option maxHeartbeats 1000000 in
theorem Control_w {b m : Nat} {xs : List Value} (x : K.W) (V : M.V)  (hx : K.wf x) (hi : K.iok x.i) (hV : R.Wf V) : A.Tr Tryz.prog 57 #[.pointer (some ⟨b, 0, none⟩)] [A.blk b (K.wk x m), M.It m V xs] (I := Unit) (fun _ => True) (fun _ => .tuple #[]) (fun _ => [A.blk b (K.wk (K.control x V).1 m), M.It m (K.control x V).2 xs]) := by
 intro w oo aa hh
 refine E.enter (n := 130) (S := oo) Tryz.func57 rfl rfl Nz.k (A.start (L := [(b, (K.wk x m))]) hh) (E.C.seq (E.C.held (E.Hp (oo) w (A.X w oo aa [M.It m V xs]) [(b, (K.wk x m))]) Nz.k (E.tk 0 (E.pt b) rfl (fun w h => h) (E.tk 1 (E.pt b) rfl (fun w h => h) (E.tk 2 (E.pj b 48) rfl (fun w h => h) (E.tj 3 (.agg #[E.i x.i.op, E.i x.i.d, E.i x.i.s, E.i x.i.ix, E.i x.i.sc, E.u x.i.imm, E.i x.i.sz]) rfl (fun w h => h) (fun w h => E.run_load h 0 rfl rfl Nz.k) (E.tk 4 (E.pt b) rfl (fun w h => h) (E.tk 5 (E.pt b) rfl (fun w h => h) (E.tk 6 (E.pj b 24) rfl (fun w h => h) (E.al2 7 8 rfl rfl ?_ ?_))))))))))
 ·
  refine E.nw [E.i 0, E.i 0, E.i 0, E.i 0, E.i 0, E.u 0, E.i 0] 66 (fun g1 => E.bk (E.al 8 rfl (E.nw [.pointer none] 156 (fun g2 => E.bk (E.al 9 rfl (E.st 1 (Zscwa x) rfl rfl (E.bk (E.al 10 rfl (E.st 0 [E.pj b 24] rfl rfl (E.bk (E.H.done Nz.k ?_)))))))))))
  refine E.tr (E.op (E.pt g1) (E.li (E.i x.i.op) 1 rfl rfl (E.To.code (E.wk [(0, E.pt b), (2, E.pt g1), (3, E.pt g2), (13, E.i x.i.op)] [(g2, [E.pj b 24]), (g1, (Zscwa x)), (b, (K.wk x m))] Nz.sub (E.C.block (E.sr (E.op (.bool (x.i.op == 1)) (E.op (.bool (x.i.op == 1)) (E.To.code (E.cd (x.i.op == 1) (fun hc3 => ?_) (fun hc3 => ?_)))))))))))
  ·
   refine E.C.region (E.op (E.pt b) (E.op (.func (.func 92) #[] #[E.pt g2]) (A.gc (fun _ => .tuple #[]) (Pop_Co1 (b := b) (m := m) (e1 := g2) (xs := xs) x V  hx hV ) [2, 0, 3] [1] [0, 1, 3, 2] (fun _ => [(b, (K.wk ((K.pc1 x V ).1) m)), (g2, [E.pj b 24]), (g1, (Zscwa x))]) (fun _ => [M.It m ((K.pc1 x V ).2) xs]) (fun _ hd4 => E.P.nb (E.To.bodyN (fn := Tryz.f57) [] ?_ ?_)))))
   · exact trivial
   intro w h
   have e : (K.control x V) = ((K.pc1 x V ).1, (K.pc1 x V ).2) := by unfold K.control; rw [hc3, N1] <;> rfl
   rw [e]
   exact ⟨(), trivial, rfl, A.dq [0, 3] [1, 2] h⟩
  refine E.sr (E.op (.bool (x.i.op == 2)) (E.op (.bool (x.i.op == 2)) (E.To.code (E.cd (x.i.op == 2) (fun hc5 => ?_) (fun hc5 => ?_)))))
  ·
   refine E.C.region (E.op (E.pt b) (E.op (E.pt b) (E.op (E.pj b 55) (E.op (E.pj b 55) (E.st 2 (K.wk (⟨x.u, x.s, x.i, 2, x.t⟩) m) rfl rfl (E.P.nb (E.To.bodyN (fn := Tryz.f57) [] ?_ ?_)))))))
   · exact trivial
   intro w h
   have e : (K.control x V) = (⟨x.u, x.s, x.i, 2, x.t⟩, V) := by unfold K.control; rw [hc3, N0, hc5, N1] <;> rfl
   rw [e]
   exact ⟨(), trivial, rfl, A.dq [2, 3] [0, 1] h⟩
  refine E.sr (E.op (.bool (x.i.op == 3)) (E.op (.bool (x.i.op == 3)) (E.To.code (E.cd (x.i.op == 3) (fun hc6 => ?_) (fun hc6 => ?_)))))
  ·
   refine E.C.region (E.op (E.pt b) (E.op (E.pt b) (E.op (E.pj b 55) (E.op (E.pj b 55) (E.st 2 (K.wk (⟨x.u, x.s, x.i, 3, x.t⟩) m) rfl rfl (E.P.nb (E.To.bodyN (fn := Tryz.f57) [] ?_ ?_)))))))
   · exact trivial
   intro w h
   have e : (K.control x V) = (⟨x.u, x.s, x.i, 3, x.t⟩, V) := by unfold K.control; rw [hc3, N0, hc5, N0, hc6, N1] <;> rfl
   rw [e]
   exact ⟨(), trivial, rfl, A.dq [2, 3] [0, 1] h⟩
  refine E.sr (E.op (.bool (x.i.op == 4)) (E.op (.bool (x.i.op == 4)) (E.To.code (E.cd (x.i.op == 4) (fun hc7 => ?_) (fun hc7 => ?_)))))
  ·
   refine E.C.held (E.Hp (oo) w (A.X w oo aa [M.It m V xs]) [(g2, [E.pj b 24]), (g1, (Zscwa x))]) Nz.k (E.tb 0 (E.pj b 24) rfl (fun w h => E.run_load h 0 rfl rfl Nz.k) (E.tb 1 (E.pj b 24) rfl (fun w h => E.run_load h 0 rfl rfl Nz.k) (E.ta 2 (E.pj b 24) rfl (E.ta 3 (E.pj b 42) rfl (E.ta 4 (E.pj b 43) rfl (E.al 5 rfl (E.li (E.u (x.s.c 1)) 2 rfl rfl (E.bk (E.ta 6 (E.pj b 24) rfl (E.ta 7 (E.pj b 24) rfl (E.al 8 rfl ?_)))))))))))
   refine E.st 2 (K.wk (⟨x.u, ⟨(x.s.c 1), x.s.r, x.s.f, x.s.c, x.s.st, x.s.du⟩, x.i, x.k, x.t⟩) m) rfl rfl (E.bk (E.H.done Nz.k (E.P.nb (E.To.bodyN (fn := Tryz.f57) [] ?_ ?_))))
   · exact trivial
   intro w h
   have e : (K.control x V) = (⟨x.u, ⟨(x.s.c 1), x.s.r, x.s.f, x.s.c, x.s.st, x.s.du⟩, x.i, x.k, x.t⟩, V) := by unfold K.control; rw [hc3, N0, hc5, N0, hc6, N0, hc7, N1] <;> rfl
   rw [e]
   exact ⟨(), trivial, rfl, A.dq [2, 3] [0, 1] h⟩
  refine E.sr (E.op (.bool (x.i.op == 113)) (E.op (.bool (x.i.op == 113)) (E.To.code (E.wk [(0, E.pt b), (2, E.pt g1), (3, E.pt g2), (13, E.i x.i.op), (41, .bool (x.i.op == 113))] [(g2, [E.pj b 24]), (g1, (Zscwa x)), (b, (K.wk x m))] Nz.sub (E.cd (x.i.op == 113) (fun hc8 => ?_) (fun hc8 => ?_))))))
  ·
   refine E.sr (E.op (E.pt b) (E.li (E.pj b 24) 0 rfl rfl (E.op (E.pj b 24) (E.op (E.pj b 24) (E.li (E.u x.s.pc) 2 rfl rfl (A.gc (fun _ => .tuple #[]) (Push_w (b := b) (m := m) (xs := xs) x V x.s.pc) [2, 3] [0, 1] [0, 2, 3, 1] (fun _ => [(b, (K.wk ((K.push x V x.s.pc).1) m)), (g2, [E.pj b 24]), (g1, (Zscwa x))]) (fun _ => [M.It m ((K.push x V x.s.pc).2) xs]) (fun _ hd9 => E.To.code (E.wk [(2, E.pt g1), (3, E.pt g2)] [(b, (K.wk ((K.push x V x.s.pc).1) m)), (g2, [E.pj b 24]), (g1, (Zscwa x))] Nz.sub (E.C.held (E.Hp (oo) w (A.X w oo aa [M.It m ((K.push x V x.s.pc).2) xs]) [(g2, [E.pj b 24]), (g1, (Zscwa x))]) Nz.k (E.tb 0 (E.pj b 24) rfl (fun w h => E.run_load h 0 rfl rfl Nz.k) (E.ta 1 (E.pj b 24) rfl ?_)))))))))))
   refine E.ta 2 (E.pj b 24) rfl (E.ta 4 (E.pj g1 5) rfl (E.tb 5 (E.u x.i.imm) rfl (fun w h => E.run_load h 1 rfl rfl Nz.k) (E.al 3 rfl (E.li (E.u ((((K.push x V x.s.pc).1).s).pc)) 0 rfl rfl (E.bk (E.ta 6 (E.u (Zscwf x V)) rfl (E.ta 7 (E.pj b 24) rfl (E.ta 8 (E.pj b 24) rfl (E.al 9 rfl (E.st 0 (Zscwd x V m) rfl rfl (E.bk ?_)))))))))))
   refine E.H.done Nz.k (E.P.nb (E.To.bodyN (fn := Tryz.f57) [] ?_ ?_))
   · exact trivial
   intro w h
   have e : (K.control x V) = (⟨(((K.push x V x.s.pc).1).u), ⟨(Zscwf x V), (((K.push x V x.s.pc).1).s).r, (((K.push x V x.s.pc).1).s).f, (((K.push x V x.s.pc).1).s).c, (((K.push x V x.s.pc).1).s).st, (((K.push x V x.s.pc).1).s).du⟩, (((K.push x V x.s.pc).1).i), ((K.push x V x.s.pc).1).k, ((K.push x V x.s.pc).1).t⟩, (K.push x V x.s.pc).2) := by unfold K.control; rw [hc3, N0, hc5, N0, hc6, N0, hc7, N0, hc8, N1] <;> rfl
   rw [e]
   exact ⟨(), trivial, rfl, A.dq [0, 3] [1, 2] h⟩
  refine E.sr (E.op (.bool (x.i.op == 112)) (E.op (.bool (x.i.op == 112)) (E.To.code (E.cd (x.i.op == 112) (fun hc10 => ?_) (fun hc10 => ?_)))))
  ·
   refine E.C.held (E.Hp (oo) w (A.X w oo aa [M.It m V xs]) [(g2, [E.pj b 24]), (g1, (Zscwa x))]) Nz.k (E.tb 0 (E.pj b 24) rfl (fun w h => E.run_load h 0 rfl rfl Nz.k) (E.ta 1 (E.pj b 24) rfl (E.ta 2 (E.pj b 24) rfl (E.ta 4 (E.pj g1 5) rfl (E.tb 5 (E.u x.i.imm) rfl (fun w h => E.run_load h 1 rfl rfl Nz.k) (E.al 3 rfl (E.li (E.u x.s.pc) 2 rfl rfl (E.bk (E.ta 6 (E.u (Zscwi x)) rfl (E.ta 7 (E.pj b 24) rfl (E.ta 8 (E.pj b 24) rfl ?_)))))))))))
   refine E.al 9 rfl (E.st 2 (K.wk (⟨x.u, ⟨(Zscwi x), x.s.r, x.s.f, x.s.c, x.s.st, x.s.du⟩, x.i, x.k, x.t⟩) m) rfl rfl (E.bk (E.H.done Nz.k (E.P.nb (E.To.bodyN (fn := Tryz.f57) [] ?_ ?_)))))
   · exact trivial
   intro w h
   have e : (K.control x V) = (⟨x.u, ⟨(Zscwi x), x.s.r, x.s.f, x.s.c, x.s.st, x.s.du⟩, x.i, x.k, x.t⟩, V) := by unfold K.control; rw [hc3, N0, hc5, N0, hc6, N0, hc7, N0, hc8, N0, hc10, N1] <;> rfl
   rw [e]
   exact ⟨(), trivial, rfl, A.dq [2, 3] [0, 1] h⟩
  refine E.sr (E.op (.bool (x.i.op == 128)) (E.op (.bool (x.i.op == 128)) (E.To.code (E.cd (x.i.op == 128) (fun hc11 => ?_) (fun hc11 => ?_)))))
  ·
   refine E.C.region (E.op (E.pt b) (E.op (E.pj g1 5) (E.li (E.u x.i.imm) 1 rfl rfl (E.vl (.agg #[E.i 4, E.u x.i.imm]) (fun w h => E.run_build #[E.i 4, E.u x.i.imm] Nz.k w) (E.op (E.pt b) (E.op (E.pj b 55) (E.st 2 (K.wk (⟨x.u, x.s, x.i, 4, x.i.imm⟩) m) rfl rfl (E.P.nb (E.To.bodyN (fn := Tryz.f57) [] ?_ ?_)))))))))
   · exact trivial
   intro w h
   have e : (K.control x V) = (⟨x.u, x.s, x.i, 4, x.i.imm⟩, V) := by unfold K.control; rw [hc3, N0, hc5, N0, hc6, N0, hc7, N0, hc8, N0, hc10, N0, hc11, N1] <;> rfl
   rw [e]
   exact ⟨(), trivial, rfl, A.dq [2, 3] [0, 1] h⟩
  refine E.sr (E.op (.bool (x.i.op == 129)) (E.op (.bool (x.i.op == 129)) (E.To.code (E.cd (x.i.op == 129) (fun hc12 => ?_) (fun hc12 => ?_)))))
  ·
   refine E.C.held (E.Hp (oo) w (A.X w oo aa [M.It m V xs]) [(g2, [E.pj b 24]), (g1, (Zscwa x))]) Nz.k (E.tb 0 (E.pj b 24) rfl (fun w h => E.run_load h 0 rfl rfl Nz.k) (E.ta 1 (E.pj g1 1) rfl (E.tb 2 (E.i x.i.d) rfl (fun w h => E.run_load h 1 rfl rfl Nz.k) (E.tb 3 (E.pj b 24) rfl (fun w h => E.run_load h 0 rfl rfl Nz.k) (E.ta 4 (E.pj g1 2) rfl (E.tb 5 (E.i x.i.s) rfl (fun w h => E.run_load h 1 rfl rfl Nz.k) (E.ta 6 (E.pj b 24) rfl (E.ta 7 (E.pj b 42) rfl (E.tb 8 (E.pj b (42 + (x.i.s).toNat)) rfl (fun w h => E.idxI (e := 22) b 42 4 .i64 x.i.s Nz.k Nz.k Nz.k Nz.k (by have := hi.get hc12; have := hi.s; omega) w) (E.ta 10 (E.pj b 24) rfl (E.ta 11 (E.pj b 25) rfl ?_)))))))))))
   refine E.al 9 rfl (E.vl (E.u (x.s.c ((x.i.s).toNat))) (fun w h => E.run_load h 2 rfl rfl (K.ld_c Nz.k (by have := hi.get hc12; have := hi.s; omega))) (E.bk (E.tb 12 (E.pj b (25 + (x.i.d).toNat)) rfl (fun w h => E.idxI (e := 22) b 25 16 .i64 x.i.d Nz.k Nz.k Nz.k Nz.k (by have := hi.d; omega) w) (E.al 13 rfl (E.G.store 2 (K.wk (⟨x.u, ⟨x.s.pc, (Zscwj x), x.s.f, x.s.c, x.s.st, x.s.du⟩, x.i, x.k, x.t⟩) m) rfl rfl (K.sto_s (x := x) Nz.k (by have := hi.d; omega)) Nz.k (E.bk (E.H.done Nz.k (E.P.nb (E.To.bodyN (fn := Tryz.f57) [] ?_ ?_)))))))))
   · exact trivial
   intro w h
   have e : (K.control x V) = (⟨x.u, ⟨x.s.pc, (Zscwj x), x.s.f, x.s.c, x.s.st, x.s.du⟩, x.i, x.k, x.t⟩, V) := by unfold K.control; rw [hc3, N0, hc5, N0, hc6, N0, hc7, N0, hc8, N0, hc10, N0, hc11, N0, hc12, N1] <;> rfl
   rw [e]
   exact ⟨(), trivial, rfl, A.dq [2, 3] [0, 1] h⟩
  refine E.sr (E.op (.bool (x.i.op == 130)) (E.op (.bool (x.i.op == 130)) (E.To.code (E.wk [(2, E.pt g1), (3, E.pt g2), (92, .bool (x.i.op == 130))] [(g2, [E.pj b 24]), (g1, (Zscwa x)), (b, (K.wk x m))] Nz.sub (E.cd (x.i.op == 130) (fun hc13 => ?_) (fun hc13 => ?_))))))
  ·
   refine E.C.seq (E.C.quiet Nz.k Nz.k (E.wv (E.pj b 24) (fun w h => E.run_load h 0 rfl rfl Nz.k) (E.wo (E.pj g1 1) (E.wv (E.i x.i.d) (fun w h => E.run_load h 1 rfl rfl Nz.k) (E.wo (E.pj b 24) (E.wo (E.pj b 25) (E.wv (E.pj b (25 + (x.i.d).toNat)) (fun w h => E.idxI (e := 22) b 25 16 .i64 x.i.d Nz.k Nz.k Nz.k Nz.k (by have := hi.d; omega) w) (E.wv (Zscwe x) (fun w h => E.run_load h 2 rfl rfl (K.ld_s Nz.k (by have := hi.d; omega))) (E.wo (Zscwe x) (E.W.done (E.To.code (E.wk [(2, E.pt g1), (3, E.pt g2), (4, E.u (x.s.r ((x.i.d).toNat)))] [(g2, [E.pj b 24]), (g1, (Zscwa x)), (b, (K.wk x m))] Nz.sub ?_))))))))))))
   refine E.sr (E.op (E.pj g1 2) (E.li (E.i x.i.s) 1 rfl rfl (E.To.code (E.C.block (E.C.seq (E.sr (E.op (.bool (x.i.s == 0)) (E.op (.bool (x.i.s == 0)) (E.To.code (E.cd (x.i.s == 0) (fun hc14 => ?_) (fun hc14 => ?_)))))))))))
   ·
    refine E.C.skip (E.To.code (E.cd (x.i.s == 0) (fun hc15 => ?_) (fun hc15 => absurd (hc14.symm.trans hc15) (by decide))))
    refine E.C.held (E.Hp (oo) w (A.X w oo aa [M.It m V xs]) [(g2, [E.pj b 24]), (g1, (Zscwa x))]) Nz.k (E.tb 0 (E.pj b 24) rfl (fun w h => E.run_load h 0 rfl rfl Nz.k) (E.ta 1 (E.pj g1 2) rfl (E.tb 2 (E.i x.i.s) rfl (fun w h => E.run_load h 1 rfl rfl Nz.k) (E.ta 3 (Zscwe x) rfl (E.ta 4 (E.pj b 24) rfl (E.ta 5 (E.pj b 42) rfl (E.tb 6 (E.pj b (42 + (x.i.s).toNat)) rfl (fun w h => E.idxI (e := 22) b 42 4 .i64 x.i.s Nz.k Nz.k Nz.k Nz.k (by have := eq_of_beq hc14; omega) w) (E.al 7 rfl (E.G.store 2 (Zscwb x m) rfl rfl (K.sto_c (x := x) Nz.k (by have := eq_of_beq hc14; omega)) Nz.k (E.bk (E.H.done Nz.k ?_)))))))))))
    refine E.P.nb (E.P.nb (E.To.bodyN (fn := Tryz.f57) [] ?_ ?_))
    · exact trivial
    intro w h
    have e : (K.control x V) = (⟨x.u, ⟨x.s.pc, x.s.r, x.s.f, (Zscwh x), x.s.st, x.s.du⟩, x.i, x.k, x.t⟩, V) := by unfold K.control; rw [hc3, N0, hc5, N0, hc6, N0, hc7, N0, hc8, N0, hc10, N0, hc11, N0, hc12, N0, hc13, N1, hc14, N1] <;> rfl
    rw [e]
    exact ⟨(), trivial, rfl, A.dq [2, 3] [0, 1] h⟩
   refine E.C.region (E.op (.bool (x.i.s == 1)) (E.op (.bool (x.i.s == 1)) (E.To.code (E.cd (x.i.s == 1) (fun hc16 => ?_) (fun hc16 => ?_)))))
   ·
    refine E.C.held (E.Hp (oo) w (A.X w oo aa [M.It m V xs]) [(g2, [E.pj b 24]), (g1, (Zscwa x))]) Nz.k (E.tb 0 (E.pj b 24) rfl (fun w h => E.run_load h 0 rfl rfl Nz.k) (E.ta 1 (E.pj g1 2) rfl (E.tb 2 (E.i x.i.s) rfl (fun w h => E.run_load h 1 rfl rfl Nz.k) (E.ta 3 (Zscwe x) rfl (E.ta 4 (E.pj b 24) rfl (E.ta 5 (E.pj b 42) rfl (E.tb 6 (E.pj b (42 + (x.i.s).toNat)) rfl (fun w h => E.idxI (e := 22) b 42 4 .i64 x.i.s Nz.k Nz.k Nz.k Nz.k (by have := eq_of_beq hc16; omega) w) (E.al 7 rfl (E.G.store 2 (Zscwb x m) rfl rfl (K.sto_c (x := x) Nz.k (by have := eq_of_beq hc16; omega)) Nz.k (E.bk (E.H.done Nz.k ?_)))))))))))
    refine E.P.nb (E.P.nb (E.To.bodyN (fn := Tryz.f57) [] ?_ ?_))
    · exact trivial
    intro w h
    have e : (K.control x V) = (⟨x.u, ⟨x.s.pc, x.s.r, x.s.f, (Zscwh x), x.s.st, x.s.du⟩, x.i, x.k, x.t⟩, V) := by unfold K.control; rw [hc3, N0, hc5, N0, hc6, N0, hc7, N0, hc8, N0, hc10, N0, hc11, N0, hc12, N0, hc13, N1, hc14, N0, hc16, N1] <;> rfl
    rw [e]
    exact ⟨(), trivial, rfl, A.dq [2, 3] [0, 1] h⟩
   refine E.sr (E.op (.bool (x.i.s == 4)) (E.op (.bool (x.i.s == 4)) (E.To.code (E.cd (x.i.s == 4) (fun hc17 => ?_) (fun hc17 => ?_)))))
   ·
    refine E.sr (E.li (E.pj b 24) 0 rfl rfl (E.op (E.pj b 24) (E.op (E.pj b 47) (E.st 2 (Zscwg x m) rfl rfl (E.To.code (E.wk [(3, E.pt g2), (4, E.u (x.s.r ((x.i.d).toNat)))] [(g2, [E.pj b 24]), (b, (Zscwg x m))] Nz.sub (E.sr (E.op (Zscwe x) (E.op (.bool ((x.s.r ((x.i.d).toNat)) != 0)) (E.To.code (E.cd ((x.s.r ((x.i.d).toNat)) != 0) (fun hc18 => ?_) (fun hc18 => ?_))))))))))))
    ·
     refine E.C.held (E.Hp (oo) w (A.X w oo aa [M.It m V xs]) [(g2, [E.pj b 24])]) Nz.k (E.tb 0 (E.pj b 24) rfl (fun w h => E.run_load h 0 rfl rfl Nz.k) (E.tb 1 (E.pj b 24) rfl (fun w h => E.run_load h 0 rfl rfl Nz.k) (E.ta 2 (E.pj b 24) rfl (E.ta 3 (E.pj b 46) rfl (E.ta 5 (Zscwe x) rfl (E.ta 6 (E.i (IntKind.wrap .i64 (x.s.r ((x.i.d).toNat)))) rfl (E.al 4 rfl (E.li (E.i x.s.st) 1 rfl rfl (E.bk (E.ta 7 (E.i (Zscwc x)) rfl (E.ta 8 (E.pj b 24) rfl ?_)))))))))))
     refine E.ta 9 (E.pj b 47) rfl (E.al 10 rfl (E.st 1 (K.wk (⟨x.u, ⟨x.s.pc, x.s.r, x.s.f, x.s.c, x.s.st, (Zscwc x)⟩, x.i, x.k, x.t⟩) m) rfl rfl (E.bk (E.H.done Nz.k (E.P.nb (E.P.nb (E.To.bodyN (fn := Tryz.f57) [] ?_ ?_)))))))
     · exact trivial
     intro w h
     have e : (K.control x V) = (⟨x.u, ⟨x.s.pc, x.s.r, x.s.f, x.s.c, x.s.st, (Zscwc x)⟩, x.i, x.k, x.t⟩, V) := by unfold K.control; rw [hc3, N0, hc5, N0, hc6, N0, hc7, N0, hc8, N0, hc10, N0, hc11, N0, hc12, N0, hc13, N1, hc14, N0, hc16, N0, hc17, N1, hc18, N1] <;> rfl
     rw [e]
     exact ⟨(), trivial, rfl, A.dq [1, 2] [0] h⟩
    refine E.C.skip (E.P.nb (E.P.nb (E.To.bodyN (fn := Tryz.f57) [] ?_ ?_)))
    · exact trivial
    intro w h
    have e : (K.control x V) = (⟨x.u, ⟨x.s.pc, x.s.r, x.s.f, x.s.c, x.s.st, 0⟩, x.i, x.k, x.t⟩, V) := by unfold K.control; rw [hc3, N0, hc5, N0, hc6, N0, hc7, N0, hc8, N0, hc10, N0, hc11, N0, hc12, N0, hc13, N1, hc14, N0, hc16, N0, hc17, N1, hc18, N0] <;> rfl
    rw [e]
    exact ⟨(), trivial, rfl, A.dq [1, 2] [0] h⟩
   refine E.C.skip (E.P.nb (E.P.nb (E.To.bodyN (fn := Tryz.f57) [] ?_ ?_)))
   · exact trivial
   intro w h
   have e : (K.control x V) = (x, V) := by unfold K.control; rw [hc3, N0, hc5, N0, hc6, N0, hc7, N0, hc8, N0, hc10, N0, hc11, N0, hc12, N0, hc13, N1, hc14, N0, hc16, N0, hc17, N0] <;> rfl
   rw [e]
   exact ⟨(), trivial, rfl, A.dq [2, 3] [0, 1] h⟩
  refine E.C.skip (E.P.nb (E.To.bodyN (fn := Tryz.f57) [] ?_ ?_))
  · exact trivial
  intro w h
  have e : (K.control x V) = (x, V) := by unfold K.control; rw [hc3, N0, hc5, N0, hc6, N0, hc7, N0, hc8, N0, hc10, N0, hc11, N0, hc12, N0, hc13, N0] <;> rfl
  rw [e]
  exact ⟨(), trivial, rfl, A.dq [2, 3] [0, 1] h⟩
 refine E.nw [.pointer none] 156 (fun g19 => E.bk (E.al 7 rfl (E.nw [E.i 0, E.i 0, E.i 0, E.i 0, E.i 0, E.u 0, E.i 0] 66 (fun g20 => E.bk (E.al 9 rfl (E.st 0 (Zscwa x) rfl rfl (E.bk (E.al 10 rfl (E.st 1 [E.pj b 24] rfl rfl (E.bk (E.H.done Nz.k ?_)))))))))))
 refine E.tr (E.op (E.pt g20) (E.li (E.i x.i.op) 0 rfl rfl (E.To.code (E.wk [(0, E.pt b), (2, E.pt g20), (3, E.pt g19), (13, E.i x.i.op)] [(g20, (Zscwa x)), (g19, [E.pj b 24]), (b, (K.wk x m))] Nz.sub (E.C.block (E.sr (E.op (.bool (x.i.op == 1)) (E.op (.bool (x.i.op == 1)) (E.To.code (E.cd (x.i.op == 1) (fun hc21 => ?_) (fun hc21 => ?_)))))))))))
 ·
  refine E.C.region (E.op (E.pt b) (E.op (.func (.func 92) #[] #[E.pt g19]) (A.gc (fun _ => .tuple #[]) (Pop_Co1 (b := b) (m := m) (e1 := g19) (xs := xs) x V  hx hV ) [2, 1, 3] [0] [0, 1, 3, 2] (fun _ => [(b, (K.wk ((K.pc1 x V ).1) m)), (g19, [E.pj b 24]), (g20, (Zscwa x))]) (fun _ => [M.It m ((K.pc1 x V ).2) xs]) (fun _ hd22 => E.P.nb (E.To.bodyN (fn := Tryz.f57) [] ?_ ?_)))))
  · exact trivial
  intro w h
  have e : (K.control x V) = ((K.pc1 x V ).1, (K.pc1 x V ).2) := by unfold K.control; rw [hc21, N1] <;> rfl
  rw [e]
  exact ⟨(), trivial, rfl, A.dq [0, 3] [1, 2] h⟩
 refine E.sr (E.op (.bool (x.i.op == 2)) (E.op (.bool (x.i.op == 2)) (E.To.code (E.cd (x.i.op == 2) (fun hc23 => ?_) (fun hc23 => ?_)))))
 ·
  refine E.C.region (E.op (E.pt b) (E.op (E.pt b) (E.op (E.pj b 55) (E.op (E.pj b 55) (E.st 2 (K.wk (⟨x.u, x.s, x.i, 2, x.t⟩) m) rfl rfl (E.P.nb (E.To.bodyN (fn := Tryz.f57) [] ?_ ?_)))))))
  · exact trivial
  intro w h
  have e : (K.control x V) = (⟨x.u, x.s, x.i, 2, x.t⟩, V) := by unfold K.control; rw [hc21, N0, hc23, N1] <;> rfl
  rw [e]
  exact ⟨(), trivial, rfl, A.dq [2, 3] [0, 1] h⟩
 refine E.sr (E.op (.bool (x.i.op == 3)) (E.op (.bool (x.i.op == 3)) (E.To.code (E.cd (x.i.op == 3) (fun hc24 => ?_) (fun hc24 => ?_)))))
 ·
  refine E.C.region (E.op (E.pt b) (E.op (E.pt b) (E.op (E.pj b 55) (E.op (E.pj b 55) (E.st 2 (K.wk (⟨x.u, x.s, x.i, 3, x.t⟩) m) rfl rfl (E.P.nb (E.To.bodyN (fn := Tryz.f57) [] ?_ ?_)))))))
  · exact trivial
  intro w h
  have e : (K.control x V) = (⟨x.u, x.s, x.i, 3, x.t⟩, V) := by unfold K.control; rw [hc21, N0, hc23, N0, hc24, N1] <;> rfl
  rw [e]
  exact ⟨(), trivial, rfl, A.dq [2, 3] [0, 1] h⟩
 refine E.sr (E.op (.bool (x.i.op == 4)) (E.op (.bool (x.i.op == 4)) (E.To.code (E.cd (x.i.op == 4) (fun hc25 => ?_) (fun hc25 => ?_)))))
 ·
  refine E.C.held (E.Hp (oo) w (A.X w oo aa [M.It m V xs]) [(g20, (Zscwa x)), (g19, [E.pj b 24])]) Nz.k (E.tb 0 (E.pj b 24) rfl (fun w h => E.run_load h 1 rfl rfl Nz.k) (E.tb 1 (E.pj b 24) rfl (fun w h => E.run_load h 1 rfl rfl Nz.k) (E.ta 2 (E.pj b 24) rfl (E.ta 3 (E.pj b 42) rfl (E.ta 4 (E.pj b 43) rfl (E.al 5 rfl (E.li (E.u (x.s.c 1)) 2 rfl rfl (E.bk (E.ta 6 (E.pj b 24) rfl (E.ta 7 (E.pj b 24) rfl (E.al 8 rfl ?_)))))))))))
  refine E.st 2 (K.wk (⟨x.u, ⟨(x.s.c 1), x.s.r, x.s.f, x.s.c, x.s.st, x.s.du⟩, x.i, x.k, x.t⟩) m) rfl rfl (E.bk (E.H.done Nz.k (E.P.nb (E.To.bodyN (fn := Tryz.f57) [] ?_ ?_))))
  · exact trivial
  intro w h
  have e : (K.control x V) = (⟨x.u, ⟨(x.s.c 1), x.s.r, x.s.f, x.s.c, x.s.st, x.s.du⟩, x.i, x.k, x.t⟩, V) := by unfold K.control; rw [hc21, N0, hc23, N0, hc24, N0, hc25, N1] <;> rfl
  rw [e]
  exact ⟨(), trivial, rfl, A.dq [2, 3] [0, 1] h⟩
 refine E.sr (E.op (.bool (x.i.op == 113)) (E.op (.bool (x.i.op == 113)) (E.To.code (E.wk [(0, E.pt b), (2, E.pt g20), (3, E.pt g19), (13, E.i x.i.op), (41, .bool (x.i.op == 113))] [(g20, (Zscwa x)), (g19, [E.pj b 24]), (b, (K.wk x m))] Nz.sub (E.cd (x.i.op == 113) (fun hc26 => ?_) (fun hc26 => ?_))))))
 ·
  refine E.sr (E.op (E.pt b) (E.li (E.pj b 24) 1 rfl rfl (E.op (E.pj b 24) (E.op (E.pj b 24) (E.li (E.u x.s.pc) 2 rfl rfl (A.gc (fun _ => .tuple #[]) (Push_w (b := b) (m := m) (xs := xs) x V x.s.pc) [2, 3] [0, 1] [0, 2, 3, 1] (fun _ => [(b, (K.wk ((K.push x V x.s.pc).1) m)), (g20, (Zscwa x)), (g19, [E.pj b 24])]) (fun _ => [M.It m ((K.push x V x.s.pc).2) xs]) (fun _ hd27 => E.To.code (E.wk [(2, E.pt g20), (3, E.pt g19)] [(b, (K.wk ((K.push x V x.s.pc).1) m)), (g20, (Zscwa x)), (g19, [E.pj b 24])] Nz.sub (E.C.held (E.Hp (oo) w (A.X w oo aa [M.It m ((K.push x V x.s.pc).2) xs]) [(g20, (Zscwa x)), (g19, [E.pj b 24])]) Nz.k (E.tb 0 (E.pj b 24) rfl (fun w h => E.run_load h 1 rfl rfl Nz.k) (E.ta 1 (E.pj b 24) rfl ?_)))))))))))
  refine E.ta 2 (E.pj b 24) rfl (E.ta 4 (E.pj g20 5) rfl (E.tb 5 (E.u x.i.imm) rfl (fun w h => E.run_load h 0 rfl rfl Nz.k) (E.al 3 rfl (E.li (E.u ((((K.push x V x.s.pc).1).s).pc)) 0 rfl rfl (E.bk (E.ta 6 (E.u (Zscwf x V)) rfl (E.ta 7 (E.pj b 24) rfl (E.ta 8 (E.pj b 24) rfl (E.al 9 rfl (E.st 0 (Zscwd x V m) rfl rfl (E.bk ?_)))))))))))
  refine E.H.done Nz.k (E.P.nb (E.To.bodyN (fn := Tryz.f57) [] ?_ ?_))
  · exact trivial
  intro w h
  have e : (K.control x V) = (⟨(((K.push x V x.s.pc).1).u), ⟨(Zscwf x V), (((K.push x V x.s.pc).1).s).r, (((K.push x V x.s.pc).1).s).f, (((K.push x V x.s.pc).1).s).c, (((K.push x V x.s.pc).1).s).st, (((K.push x V x.s.pc).1).s).du⟩, (((K.push x V x.s.pc).1).i), ((K.push x V x.s.pc).1).k, ((K.push x V x.s.pc).1).t⟩, (K.push x V x.s.pc).2) := by unfold K.control; rw [hc21, N0, hc23, N0, hc24, N0, hc25, N0, hc26, N1] <;> rfl
  rw [e]
  exact ⟨(), trivial, rfl, A.dq [0, 3] [1, 2] h⟩
 refine E.sr (E.op (.bool (x.i.op == 112)) (E.op (.bool (x.i.op == 112)) (E.To.code (E.cd (x.i.op == 112) (fun hc28 => ?_) (fun hc28 => ?_)))))
 ·
  refine E.C.held (E.Hp (oo) w (A.X w oo aa [M.It m V xs]) [(g20, (Zscwa x)), (g19, [E.pj b 24])]) Nz.k (E.tb 0 (E.pj b 24) rfl (fun w h => E.run_load h 1 rfl rfl Nz.k) (E.ta 1 (E.pj b 24) rfl (E.ta 2 (E.pj b 24) rfl (E.ta 4 (E.pj g20 5) rfl (E.tb 5 (E.u x.i.imm) rfl (fun w h => E.run_load h 0 rfl rfl Nz.k) (E.al 3 rfl (E.li (E.u x.s.pc) 2 rfl rfl (E.bk (E.ta 6 (E.u (Zscwi x)) rfl (E.ta 7 (E.pj b 24) rfl (E.ta 8 (E.pj b 24) rfl ?_)))))))))))
  refine E.al 9 rfl (E.st 2 (K.wk (⟨x.u, ⟨(Zscwi x), x.s.r, x.s.f, x.s.c, x.s.st, x.s.du⟩, x.i, x.k, x.t⟩) m) rfl rfl (E.bk (E.H.done Nz.k (E.P.nb (E.To.bodyN (fn := Tryz.f57) [] ?_ ?_)))))
  · exact trivial
  intro w h
  have e : (K.control x V) = (⟨x.u, ⟨(Zscwi x), x.s.r, x.s.f, x.s.c, x.s.st, x.s.du⟩, x.i, x.k, x.t⟩, V) := by unfold K.control; rw [hc21, N0, hc23, N0, hc24, N0, hc25, N0, hc26, N0, hc28, N1] <;> rfl
  rw [e]
  exact ⟨(), trivial, rfl, A.dq [2, 3] [0, 1] h⟩
 refine E.sr (E.op (.bool (x.i.op == 128)) (E.op (.bool (x.i.op == 128)) (E.To.code (E.cd (x.i.op == 128) (fun hc29 => ?_) (fun hc29 => ?_)))))
 ·
  refine E.C.region (E.op (E.pt b) (E.op (E.pj g20 5) (E.li (E.u x.i.imm) 0 rfl rfl (E.vl (.agg #[E.i 4, E.u x.i.imm]) (fun w h => E.run_build #[E.i 4, E.u x.i.imm] Nz.k w) (E.op (E.pt b) (E.op (E.pj b 55) (E.st 2 (K.wk (⟨x.u, x.s, x.i, 4, x.i.imm⟩) m) rfl rfl (E.P.nb (E.To.bodyN (fn := Tryz.f57) [] ?_ ?_)))))))))
  · exact trivial
  intro w h
  have e : (K.control x V) = (⟨x.u, x.s, x.i, 4, x.i.imm⟩, V) := by unfold K.control; rw [hc21, N0, hc23, N0, hc24, N0, hc25, N0, hc26, N0, hc28, N0, hc29, N1] <;> rfl
  rw [e]
  exact ⟨(), trivial, rfl, A.dq [2, 3] [0, 1] h⟩
 refine E.sr (E.op (.bool (x.i.op == 129)) (E.op (.bool (x.i.op == 129)) (E.To.code (E.cd (x.i.op == 129) (fun hc30 => ?_) (fun hc30 => ?_)))))
 ·
  refine E.C.held (E.Hp (oo) w (A.X w oo aa [M.It m V xs]) [(g20, (Zscwa x)), (g19, [E.pj b 24])]) Nz.k (E.tb 0 (E.pj b 24) rfl (fun w h => E.run_load h 1 rfl rfl Nz.k) (E.ta 1 (E.pj g20 1) rfl (E.tb 2 (E.i x.i.d) rfl (fun w h => E.run_load h 0 rfl rfl Nz.k) (E.tb 3 (E.pj b 24) rfl (fun w h => E.run_load h 1 rfl rfl Nz.k) (E.ta 4 (E.pj g20 2) rfl (E.tb 5 (E.i x.i.s) rfl (fun w h => E.run_load h 0 rfl rfl Nz.k) (E.ta 6 (E.pj b 24) rfl (E.ta 7 (E.pj b 42) rfl (E.tb 8 (E.pj b (42 + (x.i.s).toNat)) rfl (fun w h => E.idxI (e := 22) b 42 4 .i64 x.i.s Nz.k Nz.k Nz.k Nz.k (by have := hi.get hc30; have := hi.s; omega) w) (E.ta 10 (E.pj b 24) rfl (E.ta 11 (E.pj b 25) rfl ?_)))))))))))
  refine E.al 9 rfl (E.vl (E.u (x.s.c ((x.i.s).toNat))) (fun w h => E.run_load h 2 rfl rfl (K.ld_c Nz.k (by have := hi.get hc30; have := hi.s; omega))) (E.bk (E.tb 12 (E.pj b (25 + (x.i.d).toNat)) rfl (fun w h => E.idxI (e := 22) b 25 16 .i64 x.i.d Nz.k Nz.k Nz.k Nz.k (by have := hi.d; omega) w) (E.al 13 rfl (E.G.store 2 (K.wk (⟨x.u, ⟨x.s.pc, (Zscwj x), x.s.f, x.s.c, x.s.st, x.s.du⟩, x.i, x.k, x.t⟩) m) rfl rfl (K.sto_s (x := x) Nz.k (by have := hi.d; omega)) Nz.k (E.bk (E.H.done Nz.k (E.P.nb (E.To.bodyN (fn := Tryz.f57) [] ?_ ?_)))))))))
  · exact trivial
  intro w h
  have e : (K.control x V) = (⟨x.u, ⟨x.s.pc, (Zscwj x), x.s.f, x.s.c, x.s.st, x.s.du⟩, x.i, x.k, x.t⟩, V) := by unfold K.control; rw [hc21, N0, hc23, N0, hc24, N0, hc25, N0, hc26, N0, hc28, N0, hc29, N0, hc30, N1] <;> rfl
  rw [e]
  exact ⟨(), trivial, rfl, A.dq [2, 3] [0, 1] h⟩
 refine E.sr (E.op (.bool (x.i.op == 130)) (E.op (.bool (x.i.op == 130)) (E.To.code (E.wk [(2, E.pt g20), (3, E.pt g19), (92, .bool (x.i.op == 130))] [(g20, (Zscwa x)), (g19, [E.pj b 24]), (b, (K.wk x m))] Nz.sub (E.cd (x.i.op == 130) (fun hc31 => ?_) (fun hc31 => ?_))))))
 ·
  refine E.C.seq (E.C.quiet Nz.k Nz.k (E.wv (E.pj b 24) (fun w h => E.run_load h 1 rfl rfl Nz.k) (E.wo (E.pj g20 1) (E.wv (E.i x.i.d) (fun w h => E.run_load h 0 rfl rfl Nz.k) (E.wo (E.pj b 24) (E.wo (E.pj b 25) (E.wv (E.pj b (25 + (x.i.d).toNat)) (fun w h => E.idxI (e := 22) b 25 16 .i64 x.i.d Nz.k Nz.k Nz.k Nz.k (by have := hi.d; omega) w) (E.wv (Zscwe x) (fun w h => E.run_load h 2 rfl rfl (K.ld_s Nz.k (by have := hi.d; omega))) (E.wo (Zscwe x) (E.W.done (E.To.code (E.wk [(2, E.pt g20), (3, E.pt g19), (4, E.u (x.s.r ((x.i.d).toNat)))] [(g20, (Zscwa x)), (g19, [E.pj b 24]), (b, (K.wk x m))] Nz.sub ?_))))))))))))
  refine E.sr (E.op (E.pj g20 2) (E.li (E.i x.i.s) 0 rfl rfl (E.To.code (E.C.block (E.C.seq (E.sr (E.op (.bool (x.i.s == 0)) (E.op (.bool (x.i.s == 0)) (E.To.code (E.cd (x.i.s == 0) (fun hc32 => ?_) (fun hc32 => ?_)))))))))))
  ·
   refine E.C.skip (E.To.code (E.cd (x.i.s == 0) (fun hc33 => ?_) (fun hc33 => absurd (hc32.symm.trans hc33) (by decide))))
   refine E.C.held (E.Hp (oo) w (A.X w oo aa [M.It m V xs]) [(g20, (Zscwa x)), (g19, [E.pj b 24])]) Nz.k (E.tb 0 (E.pj b 24) rfl (fun w h => E.run_load h 1 rfl rfl Nz.k) (E.ta 1 (E.pj g20 2) rfl (E.tb 2 (E.i x.i.s) rfl (fun w h => E.run_load h 0 rfl rfl Nz.k) (E.ta 3 (Zscwe x) rfl (E.ta 4 (E.pj b 24) rfl (E.ta 5 (E.pj b 42) rfl (E.tb 6 (E.pj b (42 + (x.i.s).toNat)) rfl (fun w h => E.idxI (e := 22) b 42 4 .i64 x.i.s Nz.k Nz.k Nz.k Nz.k (by have := eq_of_beq hc32; omega) w) (E.al 7 rfl (E.G.store 2 (Zscwb x m) rfl rfl (K.sto_c (x := x) Nz.k (by have := eq_of_beq hc32; omega)) Nz.k (E.bk (E.H.done Nz.k ?_)))))))))))
   refine E.P.nb (E.P.nb (E.To.bodyN (fn := Tryz.f57) [] ?_ ?_))
   · exact trivial
   intro w h
   have e : (K.control x V) = (⟨x.u, ⟨x.s.pc, x.s.r, x.s.f, (Zscwh x), x.s.st, x.s.du⟩, x.i, x.k, x.t⟩, V) := by unfold K.control; rw [hc21, N0, hc23, N0, hc24, N0, hc25, N0, hc26, N0, hc28, N0, hc29, N0, hc30, N0, hc31, N1, hc32, N1] <;> rfl
   rw [e]
   exact ⟨(), trivial, rfl, A.dq [2, 3] [0, 1] h⟩
  refine E.C.region (E.op (.bool (x.i.s == 1)) (E.op (.bool (x.i.s == 1)) (E.To.code (E.cd (x.i.s == 1) (fun hc34 => ?_) (fun hc34 => ?_)))))
  ·
   refine E.C.held (E.Hp (oo) w (A.X w oo aa [M.It m V xs]) [(g20, (Zscwa x)), (g19, [E.pj b 24])]) Nz.k (E.tb 0 (E.pj b 24) rfl (fun w h => E.run_load h 1 rfl rfl Nz.k) (E.ta 1 (E.pj g20 2) rfl (E.tb 2 (E.i x.i.s) rfl (fun w h => E.run_load h 0 rfl rfl Nz.k) (E.ta 3 (Zscwe x) rfl (E.ta 4 (E.pj b 24) rfl (E.ta 5 (E.pj b 42) rfl (E.tb 6 (E.pj b (42 + (x.i.s).toNat)) rfl (fun w h => E.idxI (e := 22) b 42 4 .i64 x.i.s Nz.k Nz.k Nz.k Nz.k (by have := eq_of_beq hc34; omega) w) (E.al 7 rfl (E.G.store 2 (Zscwb x m) rfl rfl (K.sto_c (x := x) Nz.k (by have := eq_of_beq hc34; omega)) Nz.k (E.bk (E.H.done Nz.k ?_)))))))))))
   refine E.P.nb (E.P.nb (E.To.bodyN (fn := Tryz.f57) [] ?_ ?_))
   · exact trivial
   intro w h
   have e : (K.control x V) = (⟨x.u, ⟨x.s.pc, x.s.r, x.s.f, (Zscwh x), x.s.st, x.s.du⟩, x.i, x.k, x.t⟩, V) := by unfold K.control; rw [hc21, N0, hc23, N0, hc24, N0, hc25, N0, hc26, N0, hc28, N0, hc29, N0, hc30, N0, hc31, N1, hc32, N0, hc34, N1] <;> rfl
   rw [e]
   exact ⟨(), trivial, rfl, A.dq [2, 3] [0, 1] h⟩
  refine E.sr (E.op (.bool (x.i.s == 4)) (E.op (.bool (x.i.s == 4)) (E.To.code (E.cd (x.i.s == 4) (fun hc35 => ?_) (fun hc35 => ?_)))))
  ·
   refine E.sr (E.li (E.pj b 24) 1 rfl rfl (E.op (E.pj b 24) (E.op (E.pj b 47) (E.st 2 (Zscwg x m) rfl rfl (E.To.code (E.wk [(3, E.pt g19), (4, E.u (x.s.r ((x.i.d).toNat)))] [(g19, [E.pj b 24]), (b, (Zscwg x m))] Nz.sub (E.sr (E.op (Zscwe x) (E.op (.bool ((x.s.r ((x.i.d).toNat)) != 0)) (E.To.code (E.cd ((x.s.r ((x.i.d).toNat)) != 0) (fun hc36 => ?_) (fun hc36 => ?_))))))))))))
   ·
    refine E.C.held (E.Hp (oo) w (A.X w oo aa [M.It m V xs]) [(g19, [E.pj b 24])]) Nz.k (E.tb 0 (E.pj b 24) rfl (fun w h => E.run_load h 0 rfl rfl Nz.k) (E.tb 1 (E.pj b 24) rfl (fun w h => E.run_load h 0 rfl rfl Nz.k) (E.ta 2 (E.pj b 24) rfl (E.ta 3 (E.pj b 46) rfl (E.ta 5 (Zscwe x) rfl (E.ta 6 (E.i (IntKind.wrap .i64 (x.s.r ((x.i.d).toNat)))) rfl (E.al 4 rfl (E.li (E.i x.s.st) 1 rfl rfl (E.bk (E.ta 7 (E.i (Zscwc x)) rfl (E.ta 8 (E.pj b 24) rfl ?_)))))))))))
    refine E.ta 9 (E.pj b 47) rfl (E.al 10 rfl (E.st 1 (K.wk (⟨x.u, ⟨x.s.pc, x.s.r, x.s.f, x.s.c, x.s.st, (Zscwc x)⟩, x.i, x.k, x.t⟩) m) rfl rfl (E.bk (E.H.done Nz.k (E.P.nb (E.P.nb (E.To.bodyN (fn := Tryz.f57) [] ?_ ?_)))))))
    · exact trivial
    intro w h
    have e : (K.control x V) = (⟨x.u, ⟨x.s.pc, x.s.r, x.s.f, x.s.c, x.s.st, (Zscwc x)⟩, x.i, x.k, x.t⟩, V) := by unfold K.control; rw [hc21, N0, hc23, N0, hc24, N0, hc25, N0, hc26, N0, hc28, N0, hc29, N0, hc30, N0, hc31, N1, hc32, N0, hc34, N0, hc35, N1, hc36, N1] <;> rfl
    rw [e]
    exact ⟨(), trivial, rfl, A.dq [1, 2] [0] h⟩
   refine E.C.skip (E.P.nb (E.P.nb (E.To.bodyN (fn := Tryz.f57) [] ?_ ?_)))
   · exact trivial
   intro w h
   have e : (K.control x V) = (⟨x.u, ⟨x.s.pc, x.s.r, x.s.f, x.s.c, x.s.st, 0⟩, x.i, x.k, x.t⟩, V) := by unfold K.control; rw [hc21, N0, hc23, N0, hc24, N0, hc25, N0, hc26, N0, hc28, N0, hc29, N0, hc30, N0, hc31, N1, hc32, N0, hc34, N0, hc35, N1, hc36, N0] <;> rfl
   rw [e]
   exact ⟨(), trivial, rfl, A.dq [1, 2] [0] h⟩
  refine E.C.skip (E.P.nb (E.P.nb (E.To.bodyN (fn := Tryz.f57) [] ?_ ?_)))
  · exact trivial
  intro w h
  have e : (K.control x V) = (x, V) := by unfold K.control; rw [hc21, N0, hc23, N0, hc24, N0, hc25, N0, hc26, N0, hc28, N0, hc29, N0, hc30, N0, hc31, N1, hc32, N0, hc34, N0, hc35, N0] <;> rfl
  rw [e]
  exact ⟨(), trivial, rfl, A.dq [2, 3] [0, 1] h⟩
 refine E.C.skip (E.P.nb (E.To.bodyN (fn := Tryz.f57) [] ?_ ?_))
 · exact trivial
 intro w h
 have e : (K.control x V) = (x, V) := by unfold K.control; rw [hc21, N0, hc23, N0, hc24, N0, hc25, N0, hc26, N0, hc28, N0, hc29, N0, hc30, N0, hc31, N0] <;> rfl
 rw [e]
 exact ⟨(), trivial, rfl, A.dq [2, 3] [0, 1] h⟩
def K.access (x : K.W) (V : M.V) (o : Int) : K.W × M.V := (bif (o == 80) then ((K.ga1 x V (bif (decide (x.i.ix ≥ 0)) then (IntKind.wrap .u32 ((IntKind.wrap .u32 ((x.u.r ((x.i.s).toNat)) + x.i.imm)) + (IntKind.wrap .u32 ((x.u.r ((x.i.ix).toNat)) * 2 ^ (min (x.i.sc).toNat 32))))) else (IntKind.wrap .u32 ((x.u.r ((x.i.s).toNat)) + x.i.imm))) 4 x.i.d).1, (K.ga1 x V (bif (decide (x.i.ix ≥ 0)) then (IntKind.wrap .u32 ((IntKind.wrap .u32 ((x.u.r ((x.i.s).toNat)) + x.i.imm)) + (IntKind.wrap .u32 ((x.u.r ((x.i.ix).toNat)) * 2 ^ (min (x.i.sc).toNat 32))))) else (IntKind.wrap .u32 ((x.u.r ((x.i.s).toNat)) + x.i.imm))) 4 x.i.d).2) else (bif (o == 82) then ((K.ga2 x V (bif (decide (x.i.ix ≥ 0)) then (IntKind.wrap .u32 ((IntKind.wrap .u32 ((x.u.r ((x.i.s).toNat)) + x.i.imm)) + (IntKind.wrap .u32 ((x.u.r ((x.i.ix).toNat)) * 2 ^ (min (x.i.sc).toNat 32))))) else (IntKind.wrap .u32 ((x.u.r ((x.i.s).toNat)) + x.i.imm))) 1 x.i.d).1, (K.ga2 x V (bif (decide (x.i.ix ≥ 0)) then (IntKind.wrap .u32 ((IntKind.wrap .u32 ((x.u.r ((x.i.s).toNat)) + x.i.imm)) + (IntKind.wrap .u32 ((x.u.r ((x.i.ix).toNat)) * 2 ^ (min (x.i.sc).toNat 32))))) else (IntKind.wrap .u32 ((x.u.r ((x.i.s).toNat)) + x.i.imm))) 1 x.i.d).2) else (bif (o == 81) then ((K.put x V (bif (decide (x.i.ix ≥ 0)) then (IntKind.wrap .u32 ((IntKind.wrap .u32 ((x.u.r ((x.i.s).toNat)) + x.i.imm)) + (IntKind.wrap .u32 ((x.u.r ((x.i.ix).toNat)) * 2 ^ (min (x.i.sc).toNat 32))))) else (IntKind.wrap .u32 ((x.u.r ((x.i.s).toNat)) + x.i.imm))) 4 (x.s.r ((x.i.d).toNat))).1, (K.put x V (bif (decide (x.i.ix ≥ 0)) then (IntKind.wrap .u32 ((IntKind.wrap .u32 ((x.u.r ((x.i.s).toNat)) + x.i.imm)) + (IntKind.wrap .u32 ((x.u.r ((x.i.ix).toNat)) * 2 ^ (min (x.i.sc).toNat 32))))) else (IntKind.wrap .u32 ((x.u.r ((x.i.s).toNat)) + x.i.imm))) 4 (x.s.r ((x.i.d).toNat))).2) else (bif (o == 83) then ((K.put x V (bif (decide (x.i.ix ≥ 0)) then (IntKind.wrap .u32 ((IntKind.wrap .u32 ((x.u.r ((x.i.s).toNat)) + x.i.imm)) + (IntKind.wrap .u32 ((x.u.r ((x.i.ix).toNat)) * 2 ^ (min (x.i.sc).toNat 32))))) else (IntKind.wrap .u32 ((x.u.r ((x.i.s).toNat)) + x.i.imm))) 1 (x.s.r ((x.i.d).toNat))).1, (K.put x V (bif (decide (x.i.ix ≥ 0)) then (IntKind.wrap .u32 ((IntKind.wrap .u32 ((x.u.r ((x.i.s).toNat)) + x.i.imm)) + (IntKind.wrap .u32 ((x.u.r ((x.i.ix).toNat)) * 2 ^ (min (x.i.sc).toNat 32))))) else (IntKind.wrap .u32 ((x.u.r ((x.i.s).toNat)) + x.i.imm))) 1 (x.s.r ((x.i.d).toNat))).2) else (bif (o == 86) then (⟨x.u, ⟨x.s.pc, (Q.up x.s.r (x.i.d).toNat (bif (decide (x.i.ix ≥ 0)) then (IntKind.wrap .u32 ((IntKind.wrap .u32 ((x.u.r ((x.i.s).toNat)) + x.i.imm)) + (IntKind.wrap .u32 ((x.u.r ((x.i.ix).toNat)) * 2 ^ (min (x.i.sc).toNat 32))))) else (IntKind.wrap .u32 ((x.u.r ((x.i.s).toNat)) + x.i.imm)))), x.s.f, x.s.c, x.s.st, x.s.du⟩, x.i, x.k, x.t⟩, V) else (bif (o == 84) then ((K.ga3 x V (bif (decide (x.i.ix ≥ 0)) then (IntKind.wrap .u32 ((IntKind.wrap .u32 ((x.u.r ((x.i.s).toNat)) + x.i.imm)) + (IntKind.wrap .u32 ((x.u.r ((x.i.ix).toNat)) * 2 ^ (min (x.i.sc).toNat 32))))) else (IntKind.wrap .u32 ((x.u.r ((x.i.s).toNat)) + x.i.imm))) 4 x.i.d (x.s.r ((x.i.d).toNat))).1, (K.ga3 x V (bif (decide (x.i.ix ≥ 0)) then (IntKind.wrap .u32 ((IntKind.wrap .u32 ((x.u.r ((x.i.s).toNat)) + x.i.imm)) + (IntKind.wrap .u32 ((x.u.r ((x.i.ix).toNat)) * 2 ^ (min (x.i.sc).toNat 32))))) else (IntKind.wrap .u32 ((x.u.r ((x.i.s).toNat)) + x.i.imm))) 4 x.i.d (x.s.r ((x.i.d).toNat))).2) else (bif (o == 85) then ((K.ga4 x V (bif (decide (x.i.ix ≥ 0)) then (IntKind.wrap .u32 ((IntKind.wrap .u32 ((x.u.r ((x.i.s).toNat)) + x.i.imm)) + (IntKind.wrap .u32 ((x.u.r ((x.i.ix).toNat)) * 2 ^ (min (x.i.sc).toNat 32))))) else (IntKind.wrap .u32 ((x.u.r ((x.i.s).toNat)) + x.i.imm))) 4 (x.s.r ((x.i.d).toNat))).1, (K.ga4 x V (bif (decide (x.i.ix ≥ 0)) then (IntKind.wrap .u32 ((IntKind.wrap .u32 ((x.u.r ((x.i.s).toNat)) + x.i.imm)) + (IntKind.wrap .u32 ((x.u.r ((x.i.ix).toNat)) * 2 ^ (min (x.i.sc).toNat 32))))) else (IntKind.wrap .u32 ((x.u.r ((x.i.s).toNat)) + x.i.imm))) 4 (x.s.r ((x.i.d).toNat))).2) else (x, V))))))))
abbrev Zbeta (x : K.W) : List Value := [E.u (bif (decide (x.i.ix ≥ 0)) then (IntKind.wrap .u32 ((IntKind.wrap .u32 ((x.u.r ((x.i.s).toNat)) + x.i.imm)) + (IntKind.wrap .u32 ((x.u.r ((x.i.ix).toNat)) * 2 ^ (min (x.i.sc).toNat 32))))) else (IntKind.wrap .u32 ((x.u.r ((x.i.s).toNat)) + x.i.imm)))]
abbrev Zbetb (x : K.W) := E.u (bif (decide (x.i.ix ≥ 0)) then (IntKind.wrap .u32 ((IntKind.wrap .u32 ((x.u.r ((x.i.s).toNat)) + x.i.imm)) + (IntKind.wrap .u32 ((x.u.r ((x.i.ix).toNat)) * 2 ^ (min (x.i.sc).toNat 32))))) else (IntKind.wrap .u32 ((x.u.r ((x.i.s).toNat)) + x.i.imm)))
abbrev Zbetc (x : K.W) (V : M.V) := K.ga3 x V (bif (decide (x.i.ix ≥ 0)) then (IntKind.wrap .u32 ((IntKind.wrap .u32 ((x.u.r ((x.i.s).toNat)) + x.i.imm)) + (IntKind.wrap .u32 ((x.u.r ((x.i.ix).toNat)) * 2 ^ (min (x.i.sc).toNat 32))))) else (IntKind.wrap .u32 ((x.u.r ((x.i.s).toNat)) + x.i.imm))) 4 x.i.d (x.s.r ((x.i.d).toNat))
abbrev Zbetd (x : K.W) (V : M.V) := K.ga1 x V (bif (decide (x.i.ix ≥ 0)) then (IntKind.wrap .u32 ((IntKind.wrap .u32 ((x.u.r ((x.i.s).toNat)) + x.i.imm)) + (IntKind.wrap .u32 ((x.u.r ((x.i.ix).toNat)) * 2 ^ (min (x.i.sc).toNat 32))))) else (IntKind.wrap .u32 ((x.u.r ((x.i.s).toNat)) + x.i.imm))) 4 x.i.d
abbrev Zbete (x : K.W) (V : M.V) := K.ga2 x V (bif (decide (x.i.ix ≥ 0)) then (IntKind.wrap .u32 ((IntKind.wrap .u32 ((x.u.r ((x.i.s).toNat)) + x.i.imm)) + (IntKind.wrap .u32 ((x.u.r ((x.i.ix).toNat)) * 2 ^ (min (x.i.sc).toNat 32))))) else (IntKind.wrap .u32 ((x.u.r ((x.i.s).toNat)) + x.i.imm))) 1 x.i.d
abbrev Zbetf (x : K.W) (V : M.V) := K.put x V (bif (decide (x.i.ix ≥ 0)) then (IntKind.wrap .u32 ((IntKind.wrap .u32 ((x.u.r ((x.i.s).toNat)) + x.i.imm)) + (IntKind.wrap .u32 ((x.u.r ((x.i.ix).toNat)) * 2 ^ (min (x.i.sc).toNat 32))))) else (IntKind.wrap .u32 ((x.u.r ((x.i.s).toNat)) + x.i.imm))) 4 (x.s.r ((x.i.d).toNat))
abbrev Zbetg (x : K.W) (V : M.V) := K.put x V (bif (decide (x.i.ix ≥ 0)) then (IntKind.wrap .u32 ((IntKind.wrap .u32 ((x.u.r ((x.i.s).toNat)) + x.i.imm)) + (IntKind.wrap .u32 ((x.u.r ((x.i.ix).toNat)) * 2 ^ (min (x.i.sc).toNat 32))))) else (IntKind.wrap .u32 ((x.u.r ((x.i.s).toNat)) + x.i.imm))) 1 (x.s.r ((x.i.d).toNat))
abbrev Zbeth (x : K.W) (V : M.V) := K.ga4 x V (bif (decide (x.i.ix ≥ 0)) then (IntKind.wrap .u32 ((IntKind.wrap .u32 ((x.u.r ((x.i.s).toNat)) + x.i.imm)) + (IntKind.wrap .u32 ((x.u.r ((x.i.ix).toNat)) * 2 ^ (min (x.i.sc).toNat 32))))) else (IntKind.wrap .u32 ((x.u.r ((x.i.s).toNat)) + x.i.imm))) 4 (x.s.r ((x.i.d).toNat))
abbrev Zbeti (x : K.W) := Q.up x.s.r (x.i.d).toNat (bif (decide (x.i.ix ≥ 0)) then (IntKind.wrap .u32 ((IntKind.wrap .u32 ((x.u.r ((x.i.s).toNat)) + x.i.imm)) + (IntKind.wrap .u32 ((x.u.r ((x.i.ix).toNat)) * 2 ^ (min (x.i.sc).toNat 32))))) else (IntKind.wrap .u32 ((x.u.r ((x.i.s).toNat)) + x.i.imm)))
abbrev Zbetj (b : Nat) (x : K.W) : List Value := [E.pj b (25 + (x.i.d).toNat)]
abbrev Zbetk (x : K.W) : List Value := [E.u (x.s.r ((x.i.d).toNat))]
set_option maxHeartbeats 1000000 in
theorem Access_w {b m : Nat} {xs : List Value} (x : K.W) (V : M.V) (o : Int) (hx : K.wf x) (hi : K.iok x.i) (hV : R.Wf V) : A.Tr Tryz.prog 54 #[.pointer (some ⟨b, 0, none⟩), .int .i64 o] [A.blk b (K.wk x m), M.It m V xs] (I := Unit) (fun _ => True) (fun _ => .tuple #[]) (fun _ => [A.blk b (K.wk (K.access x V o).1 m), M.It m (K.access x V o).2 xs]) := by
 intro w oo aa hh
 refine E.enter (n := 104) (S := oo) Tryz.func54 rfl rfl Nz.k (A.start (L := [(b, (K.wk x m))]) hh) (E.sr (E.nw [E.pt b] 113 (fun g1 => E.To.code (E.C.seq (E.C.held (E.Hp (oo) w (A.X w oo aa [M.It m V xs]) [(g1, [E.pt b]), (b, (K.wk x m))]) Nz.k (E.tj 0 (E.pt b) rfl (fun w h => h) (fun w h => E.run_load h 0 rfl rfl Nz.k) (E.tj 1 (E.pt b) rfl (fun w h => h) (fun w h => E.run_load h 0 rfl rfl Nz.k) (E.tk 2 (E.pt b) rfl (fun w h => h) (E.tk 3 (E.pj b 48) rfl (fun w h => h) (E.tk 4 (E.pj b 49) rfl (fun w h => h) (E.tj 5 (E.i x.i.d) rfl (fun w h => h) (fun w h => E.run_load h 1 rfl rfl Nz.k) ?_)))))))))))
 refine E.tk 6 (E.pt b) rfl (fun w h => h) (E.tk 7 (E.pj b 24) rfl (fun w h => h) (E.tk 8 (E.pj b 25) rfl (fun w h => h) (E.tj 9 (E.pj b (25 + (x.i.d).toNat)) rfl (fun w h => h) (fun w h => E.idxI (e := 22) b 25 16 .i64 x.i.d Nz.k Nz.k Nz.k Nz.k (by have := hi.d; omega) w) (E.al 10 rfl (E.nw [.pointer none] 142 (fun g2 => E.bk (E.al 11 rfl (E.st 0 (Zbetj b x) rfl rfl (E.bk (E.H.done Nz.k (E.To.code ?_)))))))))))
 refine E.wk [(1, E.i o), (2, E.pt g1), (4, E.pt g2)] [(g2, (Zbetj b x)), (g1, [E.pt b]), (b, (K.wk x m))] Nz.sub (E.C.seq (E.C.held (E.Hp (oo) w (A.X w oo aa [M.It m V xs]) [(g2, (Zbetj b x)), (g1, [E.pt b]), (b, (K.wk x m))]) Nz.k (E.tj 0 (E.pt b) rfl (fun w h => h) (fun w h => E.run_load h 1 rfl rfl Nz.k) (E.tj 1 (E.pt b) rfl (fun w h => h) (fun w h => E.run_load h 1 rfl rfl Nz.k) (E.tk 2 (E.pt b) rfl (fun w h => h) (E.tk 3 (E.pj b 48) rfl (fun w h => h) (E.tk 4 (E.pj b 50) rfl (fun w h => h) (E.tj 5 (E.i x.i.s) rfl (fun w h => h) (fun w h => E.run_load h 2 rfl rfl Nz.k) (E.tk 6 (E.pt b) rfl (fun w h => h) (E.tk 7 (E.pt b) rfl (fun w h => h) (E.tk 8 (E.pj b 1) rfl (fun w h => h) ?_)))))))))))
 refine E.tj 9 (E.pj b (1 + (x.i.s).toNat)) rfl (fun w h => h) (fun w h => E.idxI (e := 22) b 1 16 .i64 x.i.s Nz.k Nz.k Nz.k Nz.k (by have := hi.s; omega) w) (E.tj 10 (E.u (x.u.r ((x.i.s).toNat))) rfl (fun w h => h) (fun w h => E.run_load h 2 rfl rfl (K.ld_u Nz.k (by have := hi.s; omega))) (E.tj 11 (E.pt b) rfl (fun w h => h) (fun w h => E.run_load h 1 rfl rfl Nz.k) (E.tk 12 (E.pt b) rfl (fun w h => h) (E.tk 13 (E.pj b 48) rfl (fun w h => h) (E.tk 14 (E.pj b 53) rfl (fun w h => h) (E.tj 15 (E.u x.i.imm) rfl (fun w h => h) (fun w h => E.run_load h 2 rfl rfl Nz.k) (E.tk 16 (E.u (IntKind.wrap .u32 ((x.u.r ((x.i.s).toNat)) + x.i.imm))) rfl (fun w h => h) (E.al 17 rfl (E.nw [E.u 0] 22 (fun g3 => E.bk (E.al 18 rfl ?_)))))))))))
 refine E.st 0 [E.u (IntKind.wrap .u32 ((x.u.r ((x.i.s).toNat)) + x.i.imm))] rfl rfl (E.bk (E.H.done Nz.k (E.To.code (E.wk [(1, E.i o), (2, E.pt g1), (4, E.pt g2), (5, E.pt g3)] [(g3, [E.u (IntKind.wrap .u32 ((x.u.r ((x.i.s).toNat)) + x.i.imm))]), (g2, (Zbetj b x)), (g1, [E.pt b]), (b, (K.wk x m))] Nz.sub (E.C.seq (E.sr (E.li (E.pt b) 2 rfl rfl (E.op (E.pt b) (E.op (E.pj b 48) (E.op (E.pj b 51) (E.li (E.i x.i.ix) 3 rfl rfl ?_)))))))))))
 refine E.op (.bool (decide (x.i.ix ≥ 0))) (E.To.code (E.C.thencut [(1, E.i o), (2, E.pt g1), (4, E.pt g2), (5, E.pt g3)] (A.X w oo aa [M.It m V xs]) [(g3, [E.u (bif (decide (x.i.ix ≥ 0)) then (IntKind.wrap .u32 ((IntKind.wrap .u32 ((x.u.r ((x.i.s).toNat)) + x.i.imm)) + (IntKind.wrap .u32 ((x.u.r ((x.i.ix).toNat)) * 2 ^ (min (x.i.sc).toNat 32))))) else (IntKind.wrap .u32 ((x.u.r ((x.i.s).toNat)) + x.i.imm)))]), (g2, (Zbetj b x)), (g1, [E.pt b]), (b, (K.wk x m))] ?_ ?_))
 ·
  generalize hc4 : (decide (x.i.ix ≥ 0)) = b5
  cases b5
  ·
   exact E.C.condF Nz.k Nz.k (E.C.skip (E.To.pst ⟨Nz.k, Nz.k⟩ Nz.sub (fun _ h => h)))
  refine E.C.condT Nz.k Nz.k (E.C.held (E.Hp (oo) w (A.X w oo aa [M.It m V xs]) [(g2, (Zbetj b x)), (g1, [E.pt b]), (b, (K.wk x m))]) Nz.k (E.tb 1 (E.pt b) rfl (fun w h => E.run_load h 1 rfl rfl Nz.k) (E.tb 2 (E.pt b) rfl (fun w h => E.run_load h 1 rfl rfl Nz.k) (E.ta 3 (E.pt b) rfl (E.ta 4 (E.pj b 48) rfl (E.ta 5 (E.pj b 51) rfl (E.tb 6 (E.i x.i.ix) rfl (fun w h => E.run_load h 2 rfl rfl Nz.k) (E.ta 7 (E.pt b) rfl (E.ta 8 (E.pt b) rfl (E.ta 9 (E.pj b 1) rfl (E.tb 10 (E.pj b (1 + (x.i.ix).toNat)) rfl (fun w h => E.idxI (e := 22) b 1 16 .i64 x.i.ix Nz.k Nz.k Nz.k Nz.k (by have := hi.ix; have := of_decide_eq_true hc4; omega) w) ?_)))))))))))
  refine E.tb 11 (E.u (x.u.r ((x.i.ix).toNat))) rfl (fun w h => E.run_load h 2 rfl rfl (K.ld_u Nz.k (by have := hi.ix; have := of_decide_eq_true hc4; omega))) (E.tb 12 (E.pt b) rfl (fun w h => E.run_load h 1 rfl rfl Nz.k) (E.ta 13 (E.pt b) rfl (E.ta 14 (E.pj b 48) rfl (E.ta 15 (E.pj b 52) rfl (E.tb 16 (E.i x.i.sc) rfl (fun w h => E.run_load h 2 rfl rfl Nz.k) (E.tb 17 (E.u (IntKind.wrap .u32 ((x.u.r ((x.i.ix).toNat)) * 2 ^ (min (x.i.sc).toNat 32)))) rfl (fun w h => E.shlI (k2 := .i64) (x.u.r ((x.i.ix).toNat)) x.i.sc 32 (by rfl) hi.sc.1 Nz.k Nz.k w) (E.al 0 rfl (E.li (E.u (IntKind.wrap .u32 ((x.u.r ((x.i.s).toNat)) + x.i.imm))) 0 rfl rfl (E.bk (E.ta 18 (E.u (IntKind.wrap .u32 ((IntKind.wrap .u32 ((x.u.r ((x.i.s).toNat)) + x.i.imm)) + (IntKind.wrap .u32 ((x.u.r ((x.i.ix).toNat)) * 2 ^ (min (x.i.sc).toNat 32)))))) rfl (E.al 19 rfl ?_)))))))))))
  exact E.st 0 [E.u (IntKind.wrap .u32 ((IntKind.wrap .u32 ((x.u.r ((x.i.s).toNat)) + x.i.imm)) + (IntKind.wrap .u32 ((x.u.r ((x.i.ix).toNat)) * 2 ^ (min (x.i.sc).toNat 32)))))] rfl rfl (E.bk (E.H.done Nz.k (E.To.pst ⟨Nz.k, Nz.k⟩ Nz.sub (fun _ h => h))))
 refine E.sr (E.li (E.pj b (25 + (x.i.d).toNat)) 1 rfl rfl (E.op (E.pj b (25 + (x.i.d).toNat)) (E.vl (E.u (x.s.r ((x.i.d).toNat))) (fun w h => E.run_load h 3 rfl rfl (K.ld_s Nz.k (by have := hi.d; omega))) (E.nw [E.u 0] 22 (fun g6 => E.st 0 (Zbetk x) rfl rfl (E.tr (E.op (E.i o) (E.To.code (E.C.block (E.sr (E.op (.bool (o == 80)) ?_)))))))))))
 refine E.op (.bool (o == 80)) (E.To.code (E.cd (o == 80) (fun hc7 => ?_) (fun hc7 => ?_)))
 ·
  refine E.C.region (E.li (E.pt b) 3 rfl rfl (E.li (Zbetb x) 1 rfl rfl (E.op (.func (.func 83) #[] #[E.pt g2]) (A.gc (q := fun _ => [A.blk b (K.wk ((Zbetd x V).1) m), A.blk g2 ((Zbetj b x)), M.It m ((Zbetd x V).2) xs]) (fun _ => .tuple #[]) (Get_Ac1 (b := b) (m := m) (e1 := g2) (xs := xs) x V (bif (decide (x.i.ix ≥ 0)) then (IntKind.wrap .u32 ((IntKind.wrap .u32 ((x.u.r ((x.i.s).toNat)) + x.i.imm)) + (IntKind.wrap .u32 ((x.u.r ((x.i.ix).toNat)) * 2 ^ (min (x.i.sc).toNat 32))))) else (IntKind.wrap .u32 ((x.u.r ((x.i.s).toNat)) + x.i.imm))) 4 x.i.d (Q.bif_bd (Q.wrap_bd _) (Q.wrap_bd _)) hV (by have := hi.d; omega)) [4, 2, 5] [0, 1, 3] [0, 1, 3, 4, 5, 2] (fun _ => [(b, (K.wk ((Zbetd x V).1) m)), (g2, (Zbetj b x)), (g6, (Zbetk x)), (g3, (Zbeta x)), (g1, [E.pt b])]) (fun _ => [M.It m ((Zbetd x V).2) xs]) (fun _ hd8 => E.P.nb (E.To.bodyN (fn := Tryz.f54) [] ?_ ?_))))))
  · exact trivial
  intro w h
  have e : (K.access x V o) = ((Zbetd x V).1, (Zbetd x V).2) := by unfold K.access; rw [hc7, N1] <;> rfl
  rw [e]
  exact ⟨(), trivial, rfl, A.dq [0, 5] [1, 2, 3, 4] h⟩
 refine E.sr (E.op (.bool (o == 82)) (E.op (.bool (o == 82)) (E.To.code (E.cd (o == 82) (fun hc9 => ?_) (fun hc9 => ?_)))))
 ·
  refine E.C.region (E.li (E.pt b) 3 rfl rfl (E.li (Zbetb x) 1 rfl rfl (E.op (.func (.func 84) #[] #[E.pt g2]) (A.gc (q := fun _ => [A.blk b (K.wk ((Zbete x V).1) m), A.blk g2 ((Zbetj b x)), M.It m ((Zbete x V).2) xs]) (fun _ => .tuple #[]) (Get_Ac2 (b := b) (m := m) (e1 := g2) (xs := xs) x V (bif (decide (x.i.ix ≥ 0)) then (IntKind.wrap .u32 ((IntKind.wrap .u32 ((x.u.r ((x.i.s).toNat)) + x.i.imm)) + (IntKind.wrap .u32 ((x.u.r ((x.i.ix).toNat)) * 2 ^ (min (x.i.sc).toNat 32))))) else (IntKind.wrap .u32 ((x.u.r ((x.i.s).toNat)) + x.i.imm))) 1 x.i.d (Q.bif_bd (Q.wrap_bd _) (Q.wrap_bd _)) hV (by have := hi.d; omega)) [4, 2, 5] [0, 1, 3] [0, 1, 3, 4, 5, 2] (fun _ => [(b, (K.wk ((Zbete x V).1) m)), (g2, (Zbetj b x)), (g6, (Zbetk x)), (g3, (Zbeta x)), (g1, [E.pt b])]) (fun _ => [M.It m ((Zbete x V).2) xs]) (fun _ hd10 => E.P.nb (E.To.bodyN (fn := Tryz.f54) [] ?_ ?_))))))
  · exact trivial
  intro w h
  have e : (K.access x V o) = ((Zbete x V).1, (Zbete x V).2) := by unfold K.access; rw [hc7, N0, hc9, N1] <;> rfl
  rw [e]
  exact ⟨(), trivial, rfl, A.dq [0, 5] [1, 2, 3, 4] h⟩
 refine E.sr (E.op (.bool (o == 81)) (E.op (.bool (o == 81)) (E.To.code (E.wk [(2, E.pt g1), (4, E.pt g2), (5, E.pt g3), (6, E.pt g6), (62, E.i o), (75, .bool (o == 81))] [(g6, (Zbetk x)), (g3, (Zbeta x)), (g2, (Zbetj b x)), (g1, [E.pt b]), (b, (K.wk x m))] Nz.sub (E.cd (o == 81) (fun hc11 => ?_) (fun hc11 => ?_))))))
 ·
  refine E.C.region (E.li (E.pt b) 3 rfl rfl (E.li (Zbetb x) 1 rfl rfl (E.li (E.u (x.s.r ((x.i.d).toNat))) 0 rfl rfl (A.gc (fun _ => .tuple #[]) (Put_w (b := b) (m := m) (xs := xs) x V (bif (decide (x.i.ix ≥ 0)) then (IntKind.wrap .u32 ((IntKind.wrap .u32 ((x.u.r ((x.i.s).toNat)) + x.i.imm)) + (IntKind.wrap .u32 ((x.u.r ((x.i.ix).toNat)) * 2 ^ (min (x.i.sc).toNat 32))))) else (IntKind.wrap .u32 ((x.u.r ((x.i.s).toNat)) + x.i.imm))) 4 (x.s.r ((x.i.d).toNat)) (Q.bif_bd (Q.wrap_bd _) (Q.wrap_bd _))) [4, 5] [0, 1, 2, 3] [0, 2, 3, 4, 5, 1] (fun _ => [(b, (K.wk ((Zbetf x V).1) m)), (g6, (Zbetk x)), (g3, (Zbeta x)), (g2, (Zbetj b x)), (g1, [E.pt b])]) (fun _ => [M.It m ((Zbetf x V).2) xs]) (fun _ hd12 => E.P.nb (E.To.bodyN (fn := Tryz.f54) [] ?_ ?_))))))
  · exact trivial
  intro w h
  have e : (K.access x V o) = ((Zbetf x V).1, (Zbetf x V).2) := by unfold K.access; rw [hc7, N0, hc9, N0, hc11, N1] <;> rfl
  rw [e]
  exact ⟨(), trivial, rfl, A.dq [0, 5] [1, 2, 3, 4] h⟩
 refine E.sr (E.op (.bool (o == 83)) (E.op (.bool (o == 83)) (E.To.code (E.cd (o == 83) (fun hc13 => ?_) (fun hc13 => ?_)))))
 ·
  refine E.C.region (E.li (E.pt b) 3 rfl rfl (E.li (Zbetb x) 1 rfl rfl (E.li (E.u (x.s.r ((x.i.d).toNat))) 0 rfl rfl (A.gc (fun _ => .tuple #[]) (Put_w (b := b) (m := m) (xs := xs) x V (bif (decide (x.i.ix ≥ 0)) then (IntKind.wrap .u32 ((IntKind.wrap .u32 ((x.u.r ((x.i.s).toNat)) + x.i.imm)) + (IntKind.wrap .u32 ((x.u.r ((x.i.ix).toNat)) * 2 ^ (min (x.i.sc).toNat 32))))) else (IntKind.wrap .u32 ((x.u.r ((x.i.s).toNat)) + x.i.imm))) 1 (x.s.r ((x.i.d).toNat)) (Q.bif_bd (Q.wrap_bd _) (Q.wrap_bd _))) [4, 5] [0, 1, 2, 3] [0, 2, 3, 4, 5, 1] (fun _ => [(b, (K.wk ((Zbetg x V).1) m)), (g6, (Zbetk x)), (g3, (Zbeta x)), (g2, (Zbetj b x)), (g1, [E.pt b])]) (fun _ => [M.It m ((Zbetg x V).2) xs]) (fun _ hd14 => E.P.nb (E.To.bodyN (fn := Tryz.f54) [] ?_ ?_))))))
  · exact trivial
  intro w h
  have e : (K.access x V o) = ((Zbetg x V).1, (Zbetg x V).2) := by unfold K.access; rw [hc7, N0, hc9, N0, hc11, N0, hc13, N1] <;> rfl
  rw [e]
  exact ⟨(), trivial, rfl, A.dq [0, 5] [1, 2, 3, 4] h⟩
 refine E.sr (E.op (.bool (o == 86)) (E.op (.bool (o == 86)) (E.To.code (E.cd (o == 86) (fun hc15 => ?_) (fun hc15 => ?_)))))
 ·
  refine E.C.region (E.li (E.pj b (25 + (x.i.d).toNat)) 2 rfl rfl (E.li (Zbetb x) 1 rfl rfl (E.op (E.pj b (25 + (x.i.d).toNat)) (E.G.store 4 (K.wk (⟨x.u, ⟨x.s.pc, (Zbeti x), x.s.f, x.s.c, x.s.st, x.s.du⟩, x.i, x.k, x.t⟩) m) rfl rfl (K.sto_s (x := x) Nz.k (by have := hi.d; omega)) Nz.k (E.P.nb (E.To.bodyN (fn := Tryz.f54) [] ?_ ?_))))))
  · exact trivial
  intro w h
  have e : (K.access x V o) = (⟨x.u, ⟨x.s.pc, (Zbeti x), x.s.f, x.s.c, x.s.st, x.s.du⟩, x.i, x.k, x.t⟩, V) := by unfold K.access; rw [hc7, N0, hc9, N0, hc11, N0, hc13, N0, hc15, N1] <;> rfl
  rw [e]
  exact ⟨(), trivial, rfl, A.dq [4, 5] [0, 1, 2, 3] h⟩
 refine E.sr (E.op (.bool (o == 84)) (E.op (.bool (o == 84)) (E.To.code (E.cd (o == 84) (fun hc16 => ?_) (fun hc16 => ?_)))))
 ·
  refine E.C.region (E.li (E.pt b) 3 rfl rfl (E.li (Zbetb x) 1 rfl rfl (E.op (.func (.func 86) #[] #[E.pt g1, E.pt g6, E.pt g2]) (A.gc (q := fun _ => [A.blk b (K.wk ((Zbetc x V).1) m), A.blk g1 ([E.pt b]), A.blk g6 ((Zbetk x)), A.blk g2 ((Zbetj b x)), M.It m ((Zbetc x V).2) xs]) (fun _ => .tuple #[]) (Get_Ac3 (b := b) (m := m) (e1 := g1) (e2 := g6) (e3 := g2) (xs := xs) x V (bif (decide (x.i.ix ≥ 0)) then (IntKind.wrap .u32 ((IntKind.wrap .u32 ((x.u.r ((x.i.s).toNat)) + x.i.imm)) + (IntKind.wrap .u32 ((x.u.r ((x.i.ix).toNat)) * 2 ^ (min (x.i.sc).toNat 32))))) else (IntKind.wrap .u32 ((x.u.r ((x.i.s).toNat)) + x.i.imm))) 4 x.i.d (x.s.r ((x.i.d).toNat)) (Q.bif_bd (Q.wrap_bd _) (Q.wrap_bd _)) hV (by have := hi.d; omega) (hx.s.r _)) [4, 3, 0, 2, 5] [1] [0, 1, 2, 3, 5, 4] (fun _ => [(b, (K.wk ((Zbetc x V).1) m)), (g1, [E.pt b]), (g6, (Zbetk x)), (g2, (Zbetj b x)), (g3, (Zbeta x))]) (fun _ => [M.It m ((Zbetc x V).2) xs]) (fun _ hd17 => E.P.nb (E.To.bodyN (fn := Tryz.f54) [] ?_ ?_))))))
  · exact trivial
  intro w h
  have e : (K.access x V o) = ((Zbetc x V).1, (Zbetc x V).2) := by unfold K.access; rw [hc7, N0, hc9, N0, hc11, N0, hc13, N0, hc15, N0, hc16, N1] <;> rfl
  rw [e]
  exact ⟨(), trivial, rfl, A.dq [0, 5] [1, 2, 3, 4] h⟩
 refine E.sr (E.op (.bool (o == 85)) (E.op (.bool (o == 85)) (E.To.code (E.wk [(2, E.pt g1), (5, E.pt g3), (6, E.pt g6), (98, .bool (o == 85))] [(g6, (Zbetk x)), (g3, (Zbeta x)), (g1, [E.pt b]), (b, (K.wk x m))] Nz.sub (E.cd (o == 85) (fun hc18 => ?_) (fun hc18 => ?_))))))
 ·
  refine E.C.region (E.li (E.pt b) 2 rfl rfl (E.li (Zbetb x) 1 rfl rfl (E.op (.func (.func 87) #[] #[E.pt g1, E.pt g6, E.pt g3]) (A.gc (fun _ => .tuple #[]) (Get_Ac4 (b := b) (m := m) (e1 := g1) (e2 := g6) (e3 := g3) (xs := xs) x V (bif (decide (x.i.ix ≥ 0)) then (IntKind.wrap .u32 ((IntKind.wrap .u32 ((x.u.r ((x.i.s).toNat)) + x.i.imm)) + (IntKind.wrap .u32 ((x.u.r ((x.i.ix).toNat)) * 2 ^ (min (x.i.sc).toNat 32))))) else (IntKind.wrap .u32 ((x.u.r ((x.i.s).toNat)) + x.i.imm))) 4 (x.s.r ((x.i.d).toNat)) (Q.bif_bd (Q.wrap_bd _) (Q.wrap_bd _)) hV (hx.s.r _)) [3, 2, 0, 1, 4] [] [0, 1, 2, 3, 4] (fun _ => [(b, (K.wk ((Zbeth x V).1) m)), (g1, [E.pt b]), (g6, (Zbetk x)), (g3, (Zbeta x))]) (fun _ => [M.It m ((Zbeth x V).2) xs]) (fun _ hd19 => E.P.nb (E.To.bodyN (fn := Tryz.f54) [] ?_ ?_))))))
  · exact trivial
  intro w h
  have e : (K.access x V o) = ((Zbeth x V).1, (Zbeth x V).2) := by unfold K.access; rw [hc7, N0, hc9, N0, hc11, N0, hc13, N0, hc15, N0, hc16, N0, hc18, N1] <;> rfl
  rw [e]
  exact ⟨(), trivial, rfl, A.dq [0, 4] [1, 2, 3] h⟩
 refine E.C.skip (E.P.nb (E.To.bodyN (fn := Tryz.f54) [] ?_ ?_))
 · exact trivial
 intro w h
 have e : (K.access x V o) = (x, V) := by unfold K.access; rw [hc7, N0, hc9, N0, hc11, N0, hc13, N0, hc15, N0, hc16, N0, hc18, N0] <;> rfl
 rw [e]
 exact ⟨(), trivial, rfl, A.dq [3, 4] [0, 1, 2] h⟩
theorem alloc_set (w : World) (o o' : Obj) : { heap := (w.alloc o).heap.setIfInBounds w.heap.size o', tape := w.tape, drawn := w.drawn, os := (w.alloc o).os, output := (w.alloc o).output : World } = w.alloc o' := by
  show ({ heap := (w.heap.push o).setIfInBounds w.heap.size o', tape := w.tape, drawn := w.drawn, os := w.os, output := w.output } : World) = { heap := w.heap.push o', tape := w.tape, drawn := w.drawn, os := w.os, output := w.output }
  congr 1
  apply Array.ext_getElem?
  intro i
  simp only [Array.getElem?_setIfInBounds, Array.getElem?_push, Array.size_push]
  by_cases h : w.heap.size = i
  · subst h; simp
  · simp [h, Ne.symm h]
theorem run_mapUpdate_new {P : Program} (w : World) (mt kt et : TypeId) (k : IntKind) (es : Array MapEntry) (clock : Nat) (a : Int) (v : Value)
    (hm : P.underlying mt = some (.map kt et)) (hk : P.underlying kt = some (.int k)) (hn : Instr.findNow (.int k) (.int k a) es.toList 0 = some none) :
    (Instr.mapUpdate mt (.map (some w.heap.size)) (.int k a) v).run P (w.alloc (.map es clock)) = .ok () (w.alloc (.map (es.push ⟨.int k a, v, clock⟩) (clock + 1))) := by
  have hb : (w.alloc (.map es clock)).heap[w.heap.size]? = some (.map es clock) := (MapKept.heap_alloc w _).1
  have hc : (Instr.checkKey false 10000 kt (.int k a)).run P (w.alloc (.map es clock)) = .ok () (w.alloc (.map es clock)) := MapKept.run_checkKey hk (by exact rfl) false 9999
  have hf := MapKept.run_findKey (P := P) (w := w.alloc (.map es clock)) hk (k := .int k a) hn
  unfold Instr.mapUpdate
  simp [run_underlying hm, MapKept.run_getObj_map hb, MapKept.run_setObj_map _ hb, hc, hf, Result.andThen]
  exact alloc_set w _ _
theorem run_lookup_hit {P : Program} (w : World) (mt kt et : TypeId) (k : IntKind) (r : Nat) (es : Array MapEntry) (clock : Nat) (a : Int) (v : Value) (i : Nat)
    (hm : P.underlying mt = some (.map kt et)) (hk : P.underlying kt = some (.int k)) (hb : w.heap[r]? = some (.map es clock)) (hn : Instr.findNow (.int k) (.int k a) es.toList 0 = some (some (i, v))) :
    (Instr.lookup mt (.map (some r)) (.int k a) true).run P w = .ok (.tuple #[v, .bool true]) w := by
  have hc : (Instr.checkKey es.isEmpty 10000 kt (.int k a)).run P w = .ok () w := MapKept.run_checkKey hk (by exact rfl) es.isEmpty 9999
  have hf := MapKept.run_findKey (P := P) (w := w) hk (k := .int k a) hn
  unfold Instr.lookup
  simp [run_underlying hm, MapKept.run_getObj_map hb, hc, hf, Result.andThen]
theorem run_lookup_miss {P : Program} (w : World) (mt kt et : TypeId) (k : IntKind) (r : Nat) (es : Array MapEntry) (clock : Nat) (a : Int) (z : Value)
    (hm : P.underlying mt = some (.map kt et)) (hk : P.underlying kt = some (.int k)) (hz : (zeroValue et).run P w = .ok z w) (hb : w.heap[r]? = some (.map es clock)) (hn : Instr.findNow (.int k) (.int k a) es.toList 0 = some none) :
    (Instr.lookup mt (.map (some r)) (.int k a) true).run P w = .ok (.tuple #[z, .bool false]) w := by
  have hc : (Instr.checkKey es.isEmpty 10000 kt (.int k a)).run P w = .ok () w := MapKept.run_checkKey hk (by exact rfl) es.isEmpty 9999
  have hf := MapKept.run_findKey (P := P) (w := w) hk (k := .int k a) hn
  unfold Instr.lookup
  simp [run_underlying hm, MapKept.run_getObj_map hb, hc, hf, hz, Result.andThen]
def opsEnt : Array MapEntry := #[⟨.int .i64 3, .func (.func 151) #[] #[], 0⟩, ⟨.int .i64 4, .func (.func 152) #[] #[], 1⟩, ⟨.int .i64 5, .func (.func 153) #[] #[], 2⟩, ⟨.int .i64 6, .func (.func 154) #[] #[], 3⟩, ⟨.int .i64 7, .func (.func 155) #[] #[], 4⟩, ⟨.int .i64 8, .func (.func 156) #[] #[], 5⟩, ⟨.int .i64 9, .func (.func 157) #[] #[], 6⟩, ⟨.int .i64 10, .func (.func 158) #[] #[], 7⟩, ⟨.int .i64 11, .func (.func 159) #[] #[], 8⟩, ⟨.int .i64 12, .func (.func 160) #[] #[], 9⟩, ⟨.int .i64 13, .func (.func 161) #[] #[], 10⟩, ⟨.int .i64 14, .func (.func 163) #[] #[], 11⟩, ⟨.int .i64 15, .func (.func 164) #[] #[], 12⟩]
theorem ops_any (w : World) : Calls Tryz.prog 131 #[] w fun e w' => e = .returned (.map (some w.heap.size)) ∧ w'.heap[w.heap.size]? = some (.map opsEnt 13) ∧ Bel w w' := by
  have hmm := @run_makeMap Tryz.prog
  have hu : ∀ (es : Array MapEntry) (clock : Nat) (a : Int) (v : Value), Instr.findNow (.int .i64) (.int .i64 a) es.toList 0 = some none →
    (Instr.mapUpdate 193 (.map (some w.heap.size)) (.int .i64 a) v).run Tryz.prog (w.alloc (.map es clock)) = .ok () (w.alloc (.map (es.push ⟨.int .i64 a, v, clock⟩) (clock + 1))) :=
    fun es clock a v h => run_mapUpdate_new w 193 3 191 .i64 es clock a v Tryz.underlying193 Tryz.underlying3 h
  have h0 : (Instr.mapUpdate 193 (.map (some w.heap.size)) (.int .i64 3) (.func (.func 151) #[] #[])).run Tryz.prog (w.alloc (.map #[] 0)) = .ok () (w.alloc (.map #[⟨.int .i64 3, .func (.func 151) #[] #[], 0⟩] 1)) := hu _ 0 3 _ (by rfl)
  have h1 : (Instr.mapUpdate 193 (.map (some w.heap.size)) (.int .i64 4) (.func (.func 152) #[] #[])).run Tryz.prog (w.alloc (.map #[⟨.int .i64 3, .func (.func 151) #[] #[], 0⟩] 1)) = .ok () (w.alloc (.map #[⟨.int .i64 3, .func (.func 151) #[] #[], 0⟩, ⟨.int .i64 4, .func (.func 152) #[] #[], 1⟩] 2)) := hu _ 1 4 _ (by rfl)
  have h2 : (Instr.mapUpdate 193 (.map (some w.heap.size)) (.int .i64 5) (.func (.func 153) #[] #[])).run Tryz.prog (w.alloc (.map #[⟨.int .i64 3, .func (.func 151) #[] #[], 0⟩, ⟨.int .i64 4, .func (.func 152) #[] #[], 1⟩] 2)) = .ok () (w.alloc (.map #[⟨.int .i64 3, .func (.func 151) #[] #[], 0⟩, ⟨.int .i64 4, .func (.func 152) #[] #[], 1⟩, ⟨.int .i64 5, .func (.func 153) #[] #[], 2⟩] 3)) := hu _ 2 5 _ (by rfl)
  have h3 : (Instr.mapUpdate 193 (.map (some w.heap.size)) (.int .i64 6) (.func (.func 154) #[] #[])).run Tryz.prog (w.alloc (.map #[⟨.int .i64 3, .func (.func 151) #[] #[], 0⟩, ⟨.int .i64 4, .func (.func 152) #[] #[], 1⟩, ⟨.int .i64 5, .func (.func 153) #[] #[], 2⟩] 3)) = .ok () (w.alloc (.map #[⟨.int .i64 3, .func (.func 151) #[] #[], 0⟩, ⟨.int .i64 4, .func (.func 152) #[] #[], 1⟩, ⟨.int .i64 5, .func (.func 153) #[] #[], 2⟩, ⟨.int .i64 6, .func (.func 154) #[] #[], 3⟩] 4)) := hu _ 3 6 _ (by rfl)
  have h4 : (Instr.mapUpdate 193 (.map (some w.heap.size)) (.int .i64 7) (.func (.func 155) #[] #[])).run Tryz.prog (w.alloc (.map #[⟨.int .i64 3, .func (.func 151) #[] #[], 0⟩, ⟨.int .i64 4, .func (.func 152) #[] #[], 1⟩, ⟨.int .i64 5, .func (.func 153) #[] #[], 2⟩, ⟨.int .i64 6, .func (.func 154) #[] #[], 3⟩] 4)) = .ok () (w.alloc (.map #[⟨.int .i64 3, .func (.func 151) #[] #[], 0⟩, ⟨.int .i64 4, .func (.func 152) #[] #[], 1⟩, ⟨.int .i64 5, .func (.func 153) #[] #[], 2⟩, ⟨.int .i64 6, .func (.func 154) #[] #[], 3⟩, ⟨.int .i64 7, .func (.func 155) #[] #[], 4⟩] 5)) := hu _ 4 7 _ (by rfl)
  have h5 : (Instr.mapUpdate 193 (.map (some w.heap.size)) (.int .i64 8) (.func (.func 156) #[] #[])).run Tryz.prog (w.alloc (.map #[⟨.int .i64 3, .func (.func 151) #[] #[], 0⟩, ⟨.int .i64 4, .func (.func 152) #[] #[], 1⟩, ⟨.int .i64 5, .func (.func 153) #[] #[], 2⟩, ⟨.int .i64 6, .func (.func 154) #[] #[], 3⟩, ⟨.int .i64 7, .func (.func 155) #[] #[], 4⟩] 5)) = .ok () (w.alloc (.map #[⟨.int .i64 3, .func (.func 151) #[] #[], 0⟩, ⟨.int .i64 4, .func (.func 152) #[] #[], 1⟩, ⟨.int .i64 5, .func (.func 153) #[] #[], 2⟩, ⟨.int .i64 6, .func (.func 154) #[] #[], 3⟩, ⟨.int .i64 7, .func (.func 155) #[] #[], 4⟩, ⟨.int .i64 8, .func (.func 156) #[] #[], 5⟩] 6)) := hu _ 5 8 _ (by rfl)
  have h6 : (Instr.mapUpdate 193 (.map (some w.heap.size)) (.int .i64 9) (.func (.func 157) #[] #[])).run Tryz.prog (w.alloc (.map #[⟨.int .i64 3, .func (.func 151) #[] #[], 0⟩, ⟨.int .i64 4, .func (.func 152) #[] #[], 1⟩, ⟨.int .i64 5, .func (.func 153) #[] #[], 2⟩, ⟨.int .i64 6, .func (.func 154) #[] #[], 3⟩, ⟨.int .i64 7, .func (.func 155) #[] #[], 4⟩, ⟨.int .i64 8, .func (.func 156) #[] #[], 5⟩] 6)) = .ok () (w.alloc (.map #[⟨.int .i64 3, .func (.func 151) #[] #[], 0⟩, ⟨.int .i64 4, .func (.func 152) #[] #[], 1⟩, ⟨.int .i64 5, .func (.func 153) #[] #[], 2⟩, ⟨.int .i64 6, .func (.func 154) #[] #[], 3⟩, ⟨.int .i64 7, .func (.func 155) #[] #[], 4⟩, ⟨.int .i64 8, .func (.func 156) #[] #[], 5⟩, ⟨.int .i64 9, .func (.func 157) #[] #[], 6⟩] 7)) := hu _ 6 9 _ (by rfl)
  have h7 : (Instr.mapUpdate 193 (.map (some w.heap.size)) (.int .i64 10) (.func (.func 158) #[] #[])).run Tryz.prog (w.alloc (.map #[⟨.int .i64 3, .func (.func 151) #[] #[], 0⟩, ⟨.int .i64 4, .func (.func 152) #[] #[], 1⟩, ⟨.int .i64 5, .func (.func 153) #[] #[], 2⟩, ⟨.int .i64 6, .func (.func 154) #[] #[], 3⟩, ⟨.int .i64 7, .func (.func 155) #[] #[], 4⟩, ⟨.int .i64 8, .func (.func 156) #[] #[], 5⟩, ⟨.int .i64 9, .func (.func 157) #[] #[], 6⟩] 7)) = .ok () (w.alloc (.map #[⟨.int .i64 3, .func (.func 151) #[] #[], 0⟩, ⟨.int .i64 4, .func (.func 152) #[] #[], 1⟩, ⟨.int .i64 5, .func (.func 153) #[] #[], 2⟩, ⟨.int .i64 6, .func (.func 154) #[] #[], 3⟩, ⟨.int .i64 7, .func (.func 155) #[] #[], 4⟩, ⟨.int .i64 8, .func (.func 156) #[] #[], 5⟩, ⟨.int .i64 9, .func (.func 157) #[] #[], 6⟩, ⟨.int .i64 10, .func (.func 158) #[] #[], 7⟩] 8)) := hu _ 7 10 _ (by rfl)
  have h8 : (Instr.mapUpdate 193 (.map (some w.heap.size)) (.int .i64 11) (.func (.func 159) #[] #[])).run Tryz.prog (w.alloc (.map #[⟨.int .i64 3, .func (.func 151) #[] #[], 0⟩, ⟨.int .i64 4, .func (.func 152) #[] #[], 1⟩, ⟨.int .i64 5, .func (.func 153) #[] #[], 2⟩, ⟨.int .i64 6, .func (.func 154) #[] #[], 3⟩, ⟨.int .i64 7, .func (.func 155) #[] #[], 4⟩, ⟨.int .i64 8, .func (.func 156) #[] #[], 5⟩, ⟨.int .i64 9, .func (.func 157) #[] #[], 6⟩, ⟨.int .i64 10, .func (.func 158) #[] #[], 7⟩] 8)) = .ok () (w.alloc (.map #[⟨.int .i64 3, .func (.func 151) #[] #[], 0⟩, ⟨.int .i64 4, .func (.func 152) #[] #[], 1⟩, ⟨.int .i64 5, .func (.func 153) #[] #[], 2⟩, ⟨.int .i64 6, .func (.func 154) #[] #[], 3⟩, ⟨.int .i64 7, .func (.func 155) #[] #[], 4⟩, ⟨.int .i64 8, .func (.func 156) #[] #[], 5⟩, ⟨.int .i64 9, .func (.func 157) #[] #[], 6⟩, ⟨.int .i64 10, .func (.func 158) #[] #[], 7⟩, ⟨.int .i64 11, .func (.func 159) #[] #[], 8⟩] 9)) := hu _ 8 11 _ (by rfl)
  have h9 : (Instr.mapUpdate 193 (.map (some w.heap.size)) (.int .i64 12) (.func (.func 160) #[] #[])).run Tryz.prog (w.alloc (.map #[⟨.int .i64 3, .func (.func 151) #[] #[], 0⟩, ⟨.int .i64 4, .func (.func 152) #[] #[], 1⟩, ⟨.int .i64 5, .func (.func 153) #[] #[], 2⟩, ⟨.int .i64 6, .func (.func 154) #[] #[], 3⟩, ⟨.int .i64 7, .func (.func 155) #[] #[], 4⟩, ⟨.int .i64 8, .func (.func 156) #[] #[], 5⟩, ⟨.int .i64 9, .func (.func 157) #[] #[], 6⟩, ⟨.int .i64 10, .func (.func 158) #[] #[], 7⟩, ⟨.int .i64 11, .func (.func 159) #[] #[], 8⟩] 9)) = .ok () (w.alloc (.map #[⟨.int .i64 3, .func (.func 151) #[] #[], 0⟩, ⟨.int .i64 4, .func (.func 152) #[] #[], 1⟩, ⟨.int .i64 5, .func (.func 153) #[] #[], 2⟩, ⟨.int .i64 6, .func (.func 154) #[] #[], 3⟩, ⟨.int .i64 7, .func (.func 155) #[] #[], 4⟩, ⟨.int .i64 8, .func (.func 156) #[] #[], 5⟩, ⟨.int .i64 9, .func (.func 157) #[] #[], 6⟩, ⟨.int .i64 10, .func (.func 158) #[] #[], 7⟩, ⟨.int .i64 11, .func (.func 159) #[] #[], 8⟩, ⟨.int .i64 12, .func (.func 160) #[] #[], 9⟩] 10)) := hu _ 9 12 _ (by rfl)
  have h10 : (Instr.mapUpdate 193 (.map (some w.heap.size)) (.int .i64 13) (.func (.func 161) #[] #[])).run Tryz.prog (w.alloc (.map #[⟨.int .i64 3, .func (.func 151) #[] #[], 0⟩, ⟨.int .i64 4, .func (.func 152) #[] #[], 1⟩, ⟨.int .i64 5, .func (.func 153) #[] #[], 2⟩, ⟨.int .i64 6, .func (.func 154) #[] #[], 3⟩, ⟨.int .i64 7, .func (.func 155) #[] #[], 4⟩, ⟨.int .i64 8, .func (.func 156) #[] #[], 5⟩, ⟨.int .i64 9, .func (.func 157) #[] #[], 6⟩, ⟨.int .i64 10, .func (.func 158) #[] #[], 7⟩, ⟨.int .i64 11, .func (.func 159) #[] #[], 8⟩, ⟨.int .i64 12, .func (.func 160) #[] #[], 9⟩] 10)) = .ok () (w.alloc (.map #[⟨.int .i64 3, .func (.func 151) #[] #[], 0⟩, ⟨.int .i64 4, .func (.func 152) #[] #[], 1⟩, ⟨.int .i64 5, .func (.func 153) #[] #[], 2⟩, ⟨.int .i64 6, .func (.func 154) #[] #[], 3⟩, ⟨.int .i64 7, .func (.func 155) #[] #[], 4⟩, ⟨.int .i64 8, .func (.func 156) #[] #[], 5⟩, ⟨.int .i64 9, .func (.func 157) #[] #[], 6⟩, ⟨.int .i64 10, .func (.func 158) #[] #[], 7⟩, ⟨.int .i64 11, .func (.func 159) #[] #[], 8⟩, ⟨.int .i64 12, .func (.func 160) #[] #[], 9⟩, ⟨.int .i64 13, .func (.func 161) #[] #[], 10⟩] 11)) := hu _ 10 13 _ (by rfl)
  have h11 : (Instr.mapUpdate 193 (.map (some w.heap.size)) (.int .i64 14) (.func (.func 163) #[] #[])).run Tryz.prog (w.alloc (.map #[⟨.int .i64 3, .func (.func 151) #[] #[], 0⟩, ⟨.int .i64 4, .func (.func 152) #[] #[], 1⟩, ⟨.int .i64 5, .func (.func 153) #[] #[], 2⟩, ⟨.int .i64 6, .func (.func 154) #[] #[], 3⟩, ⟨.int .i64 7, .func (.func 155) #[] #[], 4⟩, ⟨.int .i64 8, .func (.func 156) #[] #[], 5⟩, ⟨.int .i64 9, .func (.func 157) #[] #[], 6⟩, ⟨.int .i64 10, .func (.func 158) #[] #[], 7⟩, ⟨.int .i64 11, .func (.func 159) #[] #[], 8⟩, ⟨.int .i64 12, .func (.func 160) #[] #[], 9⟩, ⟨.int .i64 13, .func (.func 161) #[] #[], 10⟩] 11)) = .ok () (w.alloc (.map #[⟨.int .i64 3, .func (.func 151) #[] #[], 0⟩, ⟨.int .i64 4, .func (.func 152) #[] #[], 1⟩, ⟨.int .i64 5, .func (.func 153) #[] #[], 2⟩, ⟨.int .i64 6, .func (.func 154) #[] #[], 3⟩, ⟨.int .i64 7, .func (.func 155) #[] #[], 4⟩, ⟨.int .i64 8, .func (.func 156) #[] #[], 5⟩, ⟨.int .i64 9, .func (.func 157) #[] #[], 6⟩, ⟨.int .i64 10, .func (.func 158) #[] #[], 7⟩, ⟨.int .i64 11, .func (.func 159) #[] #[], 8⟩, ⟨.int .i64 12, .func (.func 160) #[] #[], 9⟩, ⟨.int .i64 13, .func (.func 161) #[] #[], 10⟩, ⟨.int .i64 14, .func (.func 163) #[] #[], 11⟩] 12)) := hu _ 11 14 _ (by rfl)
  have h12 : (Instr.mapUpdate 193 (.map (some w.heap.size)) (.int .i64 15) (.func (.func 164) #[] #[])).run Tryz.prog (w.alloc (.map #[⟨.int .i64 3, .func (.func 151) #[] #[], 0⟩, ⟨.int .i64 4, .func (.func 152) #[] #[], 1⟩, ⟨.int .i64 5, .func (.func 153) #[] #[], 2⟩, ⟨.int .i64 6, .func (.func 154) #[] #[], 3⟩, ⟨.int .i64 7, .func (.func 155) #[] #[], 4⟩, ⟨.int .i64 8, .func (.func 156) #[] #[], 5⟩, ⟨.int .i64 9, .func (.func 157) #[] #[], 6⟩, ⟨.int .i64 10, .func (.func 158) #[] #[], 7⟩, ⟨.int .i64 11, .func (.func 159) #[] #[], 8⟩, ⟨.int .i64 12, .func (.func 160) #[] #[], 9⟩, ⟨.int .i64 13, .func (.func 161) #[] #[], 10⟩, ⟨.int .i64 14, .func (.func 163) #[] #[], 11⟩] 12)) = .ok () (w.alloc (.map #[⟨.int .i64 3, .func (.func 151) #[] #[], 0⟩, ⟨.int .i64 4, .func (.func 152) #[] #[], 1⟩, ⟨.int .i64 5, .func (.func 153) #[] #[], 2⟩, ⟨.int .i64 6, .func (.func 154) #[] #[], 3⟩, ⟨.int .i64 7, .func (.func 155) #[] #[], 4⟩, ⟨.int .i64 8, .func (.func 156) #[] #[], 5⟩, ⟨.int .i64 9, .func (.func 157) #[] #[], 6⟩, ⟨.int .i64 10, .func (.func 158) #[] #[], 7⟩, ⟨.int .i64 11, .func (.func 159) #[] #[], 8⟩, ⟨.int .i64 12, .func (.func 160) #[] #[], 9⟩, ⟨.int .i64 13, .func (.func 161) #[] #[], 10⟩, ⟨.int .i64 14, .func (.func 163) #[] #[], 11⟩, ⟨.int .i64 15, .func (.func 164) #[] #[], 12⟩] 13)) := hu _ 12 15 _ (by rfl)
  clear hu
  go_enter Tryz.func131, Tryz.ntmps131
  go_wp2
  go_ret
  exact ⟨rfl, (MapKept.heap_alloc w _).1, Nz.bel⟩
theorem wbit_any (b : Bool) (w : World) : Calls Tryz.prog 162 #[.bool b] w fun e w' => e = .returned (.int .u32 (W.b01 b)) ∧ Bel w w' := by
  cases b
  · go_enter Tryz.func162, Tryz.ntmps162
    go_wp2
    go_ret
    exact ⟨rfl, Nz.bel⟩
  · go_enter Tryz.func162, Tryz.ntmps162
    go_wp2
    go_ret
    exact ⟨rfl, Nz.bel⟩
theorem clo_3 (a b : Int) (ha : 0 ≤ a) (ha' : a < 4294967296) (hb : 0 ≤ b) (hb' : b < 4294967296) (w : World) :
    Calls Tryz.prog 151 #[.int .u32 a, .int .u32 b] w fun e w' => e = .returned (.int .u32 (W.op 3 a b)) ∧ Bel w w' := by
  go_enter Tryz.func151, Tryz.ntmps151
  go_wp2
  go_ret
  exact ⟨ret_int (by rw [W.op_3]), Nz.bel⟩
theorem clo_4 (a b : Int) (ha : 0 ≤ a) (ha' : a < 4294967296) (hb : 0 ≤ b) (hb' : b < 4294967296) (w : World) :
    Calls Tryz.prog 152 #[.int .u32 a, .int .u32 b] w fun e w' => e = .returned (.int .u32 (W.op 4 a b)) ∧ Bel w w' := by
  go_enter Tryz.func152, Tryz.ntmps152
  go_wp2
  go_ret
  exact ⟨ret_int (by rw [W.op_4]), Nz.bel⟩
theorem clo_5 (a b : Int) (ha : 0 ≤ a) (ha' : a < 4294967296) (hb : 0 ≤ b) (hb' : b < 4294967296) (w : World) :
    Calls Tryz.prog 153 #[.int .u32 a, .int .u32 b] w fun e w' => e = .returned (.int .u32 (W.op 5 a b)) ∧ Bel w w' := by
  go_enter Tryz.func153, Tryz.ntmps153
  go_wp2
  go_ret
  exact ⟨ret_int (by rw [W.op_5]), Nz.bel⟩
theorem clo_6 (a b : Int) (ha : 0 ≤ a) (ha' : a < 4294967296) (hb : 0 ≤ b) (hb' : b < 4294967296) (w : World) :
    Calls Tryz.prog 154 #[.int .u32 a, .int .u32 b] w fun e w' => e = .returned (.int .u32 (W.op 6 a b)) ∧ Bel w w' := by
  go_enter Tryz.func154, Tryz.ntmps154
  go_wp2
  go_ret
  exact ⟨ret_int (by rw [W.op_6]), Nz.bel⟩
theorem clo_7 (a b : Int) (ha : 0 ≤ a) (ha' : a < 4294967296) (hb : 0 ≤ b) (hb' : b < 4294967296) (w : World) :
    Calls Tryz.prog 155 #[.int .u32 a, .int .u32 b] w fun e w' => e = .returned (.int .u32 (W.op 7 a b)) ∧ Bel w w' := by
  go_enter Tryz.func155, Tryz.ntmps155
  go_wp2
  go_ret
  exact ⟨ret_int (by rw [W.op_7]), Nz.bel⟩
theorem clo_8 (a b : Int) (ha : 0 ≤ a) (ha' : a < 4294967296) (hb : 0 ≤ b) (hb' : b < 4294967296) (w : World) :
    Calls Tryz.prog 156 #[.int .u32 a, .int .u32 b] w fun e w' => e = .returned (.int .u32 (W.op 8 a b)) ∧ Bel w w' := by
  have hd : 0 ≤ b % 32 ∧ b % 32 < 32 := by omega
  go_enter Tryz.func156, Tryz.ntmps156
  go_wp2
  go_ret
  exact ⟨ret_int (by rw [W.op_8]), Nz.bel⟩
theorem clo_9 (a b : Int) (ha : 0 ≤ a) (ha' : a < 4294967296) (hb : 0 ≤ b) (hb' : b < 4294967296) (w : World) :
    Calls Tryz.prog 157 #[.int .u32 a, .int .u32 b] w fun e w' => e = .returned (.int .u32 (W.op 9 a b)) ∧ Bel w w' := by
  have hd : 0 ≤ b % 32 ∧ b % 32 < 32 := by omega
  go_enter Tryz.func157, Tryz.ntmps157
  go_wp2
  go_ret
  exact ⟨ret_int (by rw [W.op_9]), Nz.bel⟩
theorem clo_10 (a b : Int) (ha : 0 ≤ a) (ha' : a < 4294967296) (hb : 0 ≤ b) (hb' : b < 4294967296) (w : World) :
    Calls Tryz.prog 158 #[.int .u32 a, .int .u32 b] w fun e w' => e = .returned (.int .u32 (W.op 10 a b)) ∧ Bel w w' := by
  have hd : 0 ≤ b % 32 ∧ b % 32 < 32 := by omega
  have hs := W.sg_wrap a ha ha'
  go_enter Tryz.func158, Tryz.ntmps158
  go_wp2
  go_ret
  exact ⟨ret_int (by rw [W.op_10]), Nz.bel⟩
theorem clo_11 (a b : Int) (ha : 0 ≤ a) (ha' : a < 4294967296) (hb : 0 ≤ b) (hb' : b < 4294967296) (w : World) :
    Calls Tryz.prog 159 #[.int .u32 a, .int .u32 b] w fun e w' => e = .returned (.int .u32 (W.op 11 a b)) ∧ Bel w w' := by
  go_enter Tryz.func159, Tryz.ntmps159
  go_wp2
  go_ret
  exact ⟨ret_int (by rw [W.op_11]), Nz.bel⟩
theorem clo_12 (a b : Int) (ha : 0 ≤ a) (ha' : a < 4294967296) (hb : 0 ≤ b) (hb' : b < 4294967296) (w : World) :
    Calls Tryz.prog 160 #[.int .u32 a, .int .u32 b] w fun e w' => e = .returned (.int .u32 (W.op 12 a b)) ∧ Bel w w' := by
  by_cases h : b = 0
  · subst h
    go_enter Tryz.func160, Tryz.ntmps160
    go_wp2
    go_ret
    exact ⟨ret_int (by rw [W.op_12]; simp), Nz.bel⟩
  · have h0 : (b == 0) = false := by simp [h]
    go_enter Tryz.func160, Tryz.ntmps160
    go_wp2
    go_ret
    exact ⟨ret_int (by rw [W.op_12]), Nz.bel⟩
theorem clo_13 (a b : Int) (ha : 0 ≤ a) (ha' : a < 4294967296) (hb : 0 ≤ b) (hb' : b < 4294967296) (w : World) :
    Calls Tryz.prog 161 #[.int .u32 a, .int .u32 b] w fun e w' => e = .returned (.int .u32 (W.op 13 a b)) ∧ Bel w w' := by
  go_enter Tryz.func161, Tryz.ntmps161
  go_wp2_with (go_at_call 162; refine (wbit_any _ _).mono ?_; rintro e w' ⟨rfl, hb⟩)
  go_ret
  exact ⟨ret_int (by rw [W.op_13]), Nz.bel⟩
theorem clo_14 (a b : Int) (ha : 0 ≤ a) (ha' : a < 4294967296) (hb : 0 ≤ b) (hb' : b < 4294967296) (w : World) :
    Calls Tryz.prog 163 #[.int .u32 a, .int .u32 b] w fun e w' => e = .returned (.int .u32 (W.op 14 a b)) ∧ Bel w w' := by
  go_enter Tryz.func163, Tryz.ntmps163
  go_wp2_with (go_at_call 162; refine (wbit_any _ _).mono ?_; rintro e w' ⟨rfl, hb⟩)
  go_ret
  exact ⟨ret_int (by rw [W.op_14]), Nz.bel⟩
theorem clo_15 (a b : Int) (ha : 0 ≤ a) (ha' : a < 4294967296) (hb : 0 ≤ b) (hb' : b < 4294967296) (w : World) :
    Calls Tryz.prog 164 #[.int .u32 a, .int .u32 b] w fun e w' => e = .returned (.int .u32 (W.op 15 a b)) ∧ Bel w w' := by
  have hs := W.sg_wrap a ha ha'
  have hs' := W.sg_wrap b hb hb'
  go_enter Tryz.func164, Tryz.ntmps164
  go_wp2_with (go_at_call 162; refine (wbit_any _ _).mono ?_; rintro e w' ⟨rfl, hb⟩)
  go_ret
  exact ⟨ret_int (by rw [W.op_15]), Nz.bel⟩
theorem Op_3 (a b : Int) (ha : 0 ≤ a) (ha' : a < 4294967296) (hb : 0 ≤ b) (hb' : b < 4294967296) (w : World) :
    Calls Tryz.prog 112 #[.int .i64 3, .int .u32 a, .int .u32 b] w fun e w' => e = .returned (.int .u32 (W.op 3 a b)) ∧ Bel w w' := by
  have hl : ∀ w1 : World, w1.heap[w.heap.size]? = some (.map opsEnt 13) → (Instr.lookup 193 (.map (some w.heap.size)) (.int .i64 3) true).run Tryz.prog w1 = .ok (.tuple #[.func (.func 151) #[] #[], .bool true]) w1 :=
    fun w1 h => run_lookup_hit w1 193 3 191 .i64 _ opsEnt 13 3 _ 0 Tryz.underlying193 Tryz.underlying3 h rfl
  go_enter Tryz.func112, Tryz.ntmps112
  go_wp2_with (first
    | (go_at_call 131; refine (ops_any _).mono ?_; rintro e w1 ⟨rfl, hm, hb1⟩)
    | (go_at_call 151; refine (clo_3 a b ha ha' hb hb' _).mono ?_; rintro e w2 ⟨rfl, hb2⟩))
  go_ret
  exact ⟨rfl, Nz.bel⟩
theorem Op_4 (a b : Int) (ha : 0 ≤ a) (ha' : a < 4294967296) (hb : 0 ≤ b) (hb' : b < 4294967296) (w : World) :
    Calls Tryz.prog 112 #[.int .i64 4, .int .u32 a, .int .u32 b] w fun e w' => e = .returned (.int .u32 (W.op 4 a b)) ∧ Bel w w' := by
  have hl : ∀ w1 : World, w1.heap[w.heap.size]? = some (.map opsEnt 13) → (Instr.lookup 193 (.map (some w.heap.size)) (.int .i64 4) true).run Tryz.prog w1 = .ok (.tuple #[.func (.func 152) #[] #[], .bool true]) w1 :=
    fun w1 h => run_lookup_hit w1 193 3 191 .i64 _ opsEnt 13 4 _ 1 Tryz.underlying193 Tryz.underlying3 h rfl
  go_enter Tryz.func112, Tryz.ntmps112
  go_wp2_with (first
    | (go_at_call 131; refine (ops_any _).mono ?_; rintro e w1 ⟨rfl, hm, hb1⟩)
    | (go_at_call 152; refine (clo_4 a b ha ha' hb hb' _).mono ?_; rintro e w2 ⟨rfl, hb2⟩))
  go_ret
  exact ⟨rfl, Nz.bel⟩
theorem Op_5 (a b : Int) (ha : 0 ≤ a) (ha' : a < 4294967296) (hb : 0 ≤ b) (hb' : b < 4294967296) (w : World) :
    Calls Tryz.prog 112 #[.int .i64 5, .int .u32 a, .int .u32 b] w fun e w' => e = .returned (.int .u32 (W.op 5 a b)) ∧ Bel w w' := by
  have hl : ∀ w1 : World, w1.heap[w.heap.size]? = some (.map opsEnt 13) → (Instr.lookup 193 (.map (some w.heap.size)) (.int .i64 5) true).run Tryz.prog w1 = .ok (.tuple #[.func (.func 153) #[] #[], .bool true]) w1 :=
    fun w1 h => run_lookup_hit w1 193 3 191 .i64 _ opsEnt 13 5 _ 2 Tryz.underlying193 Tryz.underlying3 h rfl
  go_enter Tryz.func112, Tryz.ntmps112
  go_wp2_with (first
    | (go_at_call 131; refine (ops_any _).mono ?_; rintro e w1 ⟨rfl, hm, hb1⟩)
    | (go_at_call 153; refine (clo_5 a b ha ha' hb hb' _).mono ?_; rintro e w2 ⟨rfl, hb2⟩))
  go_ret
  exact ⟨rfl, Nz.bel⟩
theorem Op_6 (a b : Int) (ha : 0 ≤ a) (ha' : a < 4294967296) (hb : 0 ≤ b) (hb' : b < 4294967296) (w : World) :
    Calls Tryz.prog 112 #[.int .i64 6, .int .u32 a, .int .u32 b] w fun e w' => e = .returned (.int .u32 (W.op 6 a b)) ∧ Bel w w' := by
  have hl : ∀ w1 : World, w1.heap[w.heap.size]? = some (.map opsEnt 13) → (Instr.lookup 193 (.map (some w.heap.size)) (.int .i64 6) true).run Tryz.prog w1 = .ok (.tuple #[.func (.func 154) #[] #[], .bool true]) w1 :=
    fun w1 h => run_lookup_hit w1 193 3 191 .i64 _ opsEnt 13 6 _ 3 Tryz.underlying193 Tryz.underlying3 h rfl
  go_enter Tryz.func112, Tryz.ntmps112
  go_wp2_with (first
    | (go_at_call 131; refine (ops_any _).mono ?_; rintro e w1 ⟨rfl, hm, hb1⟩)
    | (go_at_call 154; refine (clo_6 a b ha ha' hb hb' _).mono ?_; rintro e w2 ⟨rfl, hb2⟩))
  go_ret
  exact ⟨rfl, Nz.bel⟩
theorem Op_7 (a b : Int) (ha : 0 ≤ a) (ha' : a < 4294967296) (hb : 0 ≤ b) (hb' : b < 4294967296) (w : World) :
    Calls Tryz.prog 112 #[.int .i64 7, .int .u32 a, .int .u32 b] w fun e w' => e = .returned (.int .u32 (W.op 7 a b)) ∧ Bel w w' := by
  have hl : ∀ w1 : World, w1.heap[w.heap.size]? = some (.map opsEnt 13) → (Instr.lookup 193 (.map (some w.heap.size)) (.int .i64 7) true).run Tryz.prog w1 = .ok (.tuple #[.func (.func 155) #[] #[], .bool true]) w1 :=
    fun w1 h => run_lookup_hit w1 193 3 191 .i64 _ opsEnt 13 7 _ 4 Tryz.underlying193 Tryz.underlying3 h rfl
  go_enter Tryz.func112, Tryz.ntmps112
  go_wp2_with (first
    | (go_at_call 131; refine (ops_any _).mono ?_; rintro e w1 ⟨rfl, hm, hb1⟩)
    | (go_at_call 155; refine (clo_7 a b ha ha' hb hb' _).mono ?_; rintro e w2 ⟨rfl, hb2⟩))
  go_ret
  exact ⟨rfl, Nz.bel⟩
theorem Op_8 (a b : Int) (ha : 0 ≤ a) (ha' : a < 4294967296) (hb : 0 ≤ b) (hb' : b < 4294967296) (w : World) :
    Calls Tryz.prog 112 #[.int .i64 8, .int .u32 a, .int .u32 b] w fun e w' => e = .returned (.int .u32 (W.op 8 a b)) ∧ Bel w w' := by
  have hl : ∀ w1 : World, w1.heap[w.heap.size]? = some (.map opsEnt 13) → (Instr.lookup 193 (.map (some w.heap.size)) (.int .i64 8) true).run Tryz.prog w1 = .ok (.tuple #[.func (.func 156) #[] #[], .bool true]) w1 :=
    fun w1 h => run_lookup_hit w1 193 3 191 .i64 _ opsEnt 13 8 _ 5 Tryz.underlying193 Tryz.underlying3 h rfl
  go_enter Tryz.func112, Tryz.ntmps112
  go_wp2_with (first
    | (go_at_call 131; refine (ops_any _).mono ?_; rintro e w1 ⟨rfl, hm, hb1⟩)
    | (go_at_call 156; refine (clo_8 a b ha ha' hb hb' _).mono ?_; rintro e w2 ⟨rfl, hb2⟩))
  go_ret
  exact ⟨rfl, Nz.bel⟩
theorem Op_9 (a b : Int) (ha : 0 ≤ a) (ha' : a < 4294967296) (hb : 0 ≤ b) (hb' : b < 4294967296) (w : World) :
    Calls Tryz.prog 112 #[.int .i64 9, .int .u32 a, .int .u32 b] w fun e w' => e = .returned (.int .u32 (W.op 9 a b)) ∧ Bel w w' := by
  have hl : ∀ w1 : World, w1.heap[w.heap.size]? = some (.map opsEnt 13) → (Instr.lookup 193 (.map (some w.heap.size)) (.int .i64 9) true).run Tryz.prog w1 = .ok (.tuple #[.func (.func 157) #[] #[], .bool true]) w1 :=
    fun w1 h => run_lookup_hit w1 193 3 191 .i64 _ opsEnt 13 9 _ 6 Tryz.underlying193 Tryz.underlying3 h rfl
  go_enter Tryz.func112, Tryz.ntmps112
  go_wp2_with (first
    | (go_at_call 131; refine (ops_any _).mono ?_; rintro e w1 ⟨rfl, hm, hb1⟩)
    | (go_at_call 157; refine (clo_9 a b ha ha' hb hb' _).mono ?_; rintro e w2 ⟨rfl, hb2⟩))
  go_ret
  exact ⟨rfl, Nz.bel⟩
theorem Op_10 (a b : Int) (ha : 0 ≤ a) (ha' : a < 4294967296) (hb : 0 ≤ b) (hb' : b < 4294967296) (w : World) :
    Calls Tryz.prog 112 #[.int .i64 10, .int .u32 a, .int .u32 b] w fun e w' => e = .returned (.int .u32 (W.op 10 a b)) ∧ Bel w w' := by
  have hl : ∀ w1 : World, w1.heap[w.heap.size]? = some (.map opsEnt 13) → (Instr.lookup 193 (.map (some w.heap.size)) (.int .i64 10) true).run Tryz.prog w1 = .ok (.tuple #[.func (.func 158) #[] #[], .bool true]) w1 :=
    fun w1 h => run_lookup_hit w1 193 3 191 .i64 _ opsEnt 13 10 _ 7 Tryz.underlying193 Tryz.underlying3 h rfl
  go_enter Tryz.func112, Tryz.ntmps112
  go_wp2_with (first
    | (go_at_call 131; refine (ops_any _).mono ?_; rintro e w1 ⟨rfl, hm, hb1⟩)
    | (go_at_call 158; refine (clo_10 a b ha ha' hb hb' _).mono ?_; rintro e w2 ⟨rfl, hb2⟩))
  go_ret
  exact ⟨rfl, Nz.bel⟩
theorem Op_11 (a b : Int) (ha : 0 ≤ a) (ha' : a < 4294967296) (hb : 0 ≤ b) (hb' : b < 4294967296) (w : World) :
    Calls Tryz.prog 112 #[.int .i64 11, .int .u32 a, .int .u32 b] w fun e w' => e = .returned (.int .u32 (W.op 11 a b)) ∧ Bel w w' := by
  have hl : ∀ w1 : World, w1.heap[w.heap.size]? = some (.map opsEnt 13) → (Instr.lookup 193 (.map (some w.heap.size)) (.int .i64 11) true).run Tryz.prog w1 = .ok (.tuple #[.func (.func 159) #[] #[], .bool true]) w1 :=
    fun w1 h => run_lookup_hit w1 193 3 191 .i64 _ opsEnt 13 11 _ 8 Tryz.underlying193 Tryz.underlying3 h rfl
  go_enter Tryz.func112, Tryz.ntmps112
  go_wp2_with (first
    | (go_at_call 131; refine (ops_any _).mono ?_; rintro e w1 ⟨rfl, hm, hb1⟩)
    | (go_at_call 159; refine (clo_11 a b ha ha' hb hb' _).mono ?_; rintro e w2 ⟨rfl, hb2⟩))
  go_ret
  exact ⟨rfl, Nz.bel⟩
theorem Op_12 (a b : Int) (ha : 0 ≤ a) (ha' : a < 4294967296) (hb : 0 ≤ b) (hb' : b < 4294967296) (w : World) :
    Calls Tryz.prog 112 #[.int .i64 12, .int .u32 a, .int .u32 b] w fun e w' => e = .returned (.int .u32 (W.op 12 a b)) ∧ Bel w w' := by
  have hl : ∀ w1 : World, w1.heap[w.heap.size]? = some (.map opsEnt 13) → (Instr.lookup 193 (.map (some w.heap.size)) (.int .i64 12) true).run Tryz.prog w1 = .ok (.tuple #[.func (.func 160) #[] #[], .bool true]) w1 :=
    fun w1 h => run_lookup_hit w1 193 3 191 .i64 _ opsEnt 13 12 _ 9 Tryz.underlying193 Tryz.underlying3 h rfl
  go_enter Tryz.func112, Tryz.ntmps112
  go_wp2_with (first
    | (go_at_call 131; refine (ops_any _).mono ?_; rintro e w1 ⟨rfl, hm, hb1⟩)
    | (go_at_call 160; refine (clo_12 a b ha ha' hb hb' _).mono ?_; rintro e w2 ⟨rfl, hb2⟩))
  go_ret
  exact ⟨rfl, Nz.bel⟩
theorem Op_13 (a b : Int) (ha : 0 ≤ a) (ha' : a < 4294967296) (hb : 0 ≤ b) (hb' : b < 4294967296) (w : World) :
    Calls Tryz.prog 112 #[.int .i64 13, .int .u32 a, .int .u32 b] w fun e w' => e = .returned (.int .u32 (W.op 13 a b)) ∧ Bel w w' := by
  have hl : ∀ w1 : World, w1.heap[w.heap.size]? = some (.map opsEnt 13) → (Instr.lookup 193 (.map (some w.heap.size)) (.int .i64 13) true).run Tryz.prog w1 = .ok (.tuple #[.func (.func 161) #[] #[], .bool true]) w1 :=
    fun w1 h => run_lookup_hit w1 193 3 191 .i64 _ opsEnt 13 13 _ 10 Tryz.underlying193 Tryz.underlying3 h rfl
  go_enter Tryz.func112, Tryz.ntmps112
  go_wp2_with (first
    | (go_at_call 131; refine (ops_any _).mono ?_; rintro e w1 ⟨rfl, hm, hb1⟩)
    | (go_at_call 161; refine (clo_13 a b ha ha' hb hb' _).mono ?_; rintro e w2 ⟨rfl, hb2⟩))
  go_ret
  exact ⟨rfl, Nz.bel⟩
theorem Op_14 (a b : Int) (ha : 0 ≤ a) (ha' : a < 4294967296) (hb : 0 ≤ b) (hb' : b < 4294967296) (w : World) :
    Calls Tryz.prog 112 #[.int .i64 14, .int .u32 a, .int .u32 b] w fun e w' => e = .returned (.int .u32 (W.op 14 a b)) ∧ Bel w w' := by
  have hl : ∀ w1 : World, w1.heap[w.heap.size]? = some (.map opsEnt 13) → (Instr.lookup 193 (.map (some w.heap.size)) (.int .i64 14) true).run Tryz.prog w1 = .ok (.tuple #[.func (.func 163) #[] #[], .bool true]) w1 :=
    fun w1 h => run_lookup_hit w1 193 3 191 .i64 _ opsEnt 13 14 _ 11 Tryz.underlying193 Tryz.underlying3 h rfl
  go_enter Tryz.func112, Tryz.ntmps112
  go_wp2_with (first
    | (go_at_call 131; refine (ops_any _).mono ?_; rintro e w1 ⟨rfl, hm, hb1⟩)
    | (go_at_call 163; refine (clo_14 a b ha ha' hb hb' _).mono ?_; rintro e w2 ⟨rfl, hb2⟩))
  go_ret
  exact ⟨rfl, Nz.bel⟩
theorem Op_15 (a b : Int) (ha : 0 ≤ a) (ha' : a < 4294967296) (hb : 0 ≤ b) (hb' : b < 4294967296) (w : World) :
    Calls Tryz.prog 112 #[.int .i64 15, .int .u32 a, .int .u32 b] w fun e w' => e = .returned (.int .u32 (W.op 15 a b)) ∧ Bel w w' := by
  have hl : ∀ w1 : World, w1.heap[w.heap.size]? = some (.map opsEnt 13) → (Instr.lookup 193 (.map (some w.heap.size)) (.int .i64 15) true).run Tryz.prog w1 = .ok (.tuple #[.func (.func 164) #[] #[], .bool true]) w1 :=
    fun w1 h => run_lookup_hit w1 193 3 191 .i64 _ opsEnt 13 15 _ 12 Tryz.underlying193 Tryz.underlying3 h rfl
  go_enter Tryz.func112, Tryz.ntmps112
  go_wp2_with (first
    | (go_at_call 131; refine (ops_any _).mono ?_; rintro e w1 ⟨rfl, hm, hb1⟩)
    | (go_at_call 164; refine (clo_15 a b ha ha' hb hb' _).mono ?_; rintro e w2 ⟨rfl, hb2⟩))
  go_ret
  exact ⟨rfl, Nz.bel⟩
theorem opsEnt_miss (c : Int) (h : c < 3 ∨ 15 < c) : Instr.findNow (.int .i64) (.int .i64 c) opsEnt.toList 0 = some none := by
  have e : ∀ k : Int, 3 ≤ k → k ≤ 15 → (c == k) = false := fun k _ _ => by simp; omega
  simp [opsEnt, Instr.findNow, Instr.sameNow, e]
theorem Op_n (c a b : Int) (hc : c < 3 ∨ 15 < c) (w : World) :
    Calls Tryz.prog 112 #[.int .i64 c, .int .u32 a, .int .u32 b] w fun e w' => e = .returned (.int .u32 (W.op c a b)) ∧ Bel w w' := by
  have hz : ∀ w : World, (zeroValue 191).run Tryz.prog w = .ok .nilFunc w := fun w => by kernel_rfl
  have hl : ∀ w1 : World, w1.heap[w.heap.size]? = some (.map opsEnt 13) → (Instr.lookup 193 (.map (some w.heap.size)) (.int .i64 c) true).run Tryz.prog w1 = .ok (.tuple #[.nilFunc, .bool false]) w1 :=
    fun w1 h => run_lookup_miss w1 193 3 191 .i64 _ opsEnt 13 c _ Tryz.underlying193 Tryz.underlying3 (hz _) h (opsEnt_miss c hc)
  have HN := hid (W.op_n c a b hc)
  clear hz
  go_enter Tryz.func112, Tryz.ntmps112
  go_wp2_with (go_at_call 131; refine (ops_any _).mono ?_; rintro e w1 ⟨rfl, hm, hb1⟩)
  go_ret
  exact ⟨ret_int (by rw [HN.out]), Nz.bel⟩
theorem Op_any (c a b : Int) (ha : 0 ≤ a) (ha' : a < 4294967296) (hb : 0 ≤ b) (hb' : b < 4294967296) (w : World) :
    Calls Tryz.prog 112 #[.int .i64 c, .int .u32 a, .int .u32 b] w fun e w' => e = .returned (.int .u32 (W.op c a b)) ∧ Bel w w' := by
  rcases (by omega : c = 3 ∨ c = 4 ∨ c = 5 ∨ c = 6 ∨ c = 7 ∨ c = 8 ∨ c = 9 ∨ c = 10 ∨ c = 11 ∨ c = 12 ∨ c = 13 ∨ c = 14 ∨ c = 15 ∨ (c < 3 ∨ 15 < c)) with rfl | rfl | rfl | rfl | rfl | rfl | rfl | rfl | rfl | rfl | rfl | rfl | rfl | h
  · exact Op_3 a b ha ha' hb hb' w
  · exact Op_4 a b ha ha' hb hb' w
  · exact Op_5 a b ha ha' hb hb' w
  · exact Op_6 a b ha ha' hb hb' w
  · exact Op_7 a b ha ha' hb hb' w
  · exact Op_8 a b ha ha' hb hb' w
  · exact Op_9 a b ha ha' hb hb' w
  · exact Op_10 a b ha ha' hb hb' w
  · exact Op_11 a b ha ha' hb hb' w
  · exact Op_12 a b ha ha' hb hb' w
  · exact Op_13 a b ha ha' hb hb' w
  · exact Op_14 a b ha ha' hb hb' w
  · exact Op_15 a b ha ha' hb hb' w
  · exact Op_n c a b h w
/-- What an operation yields: its value, whether it is stored, the kind and the operands of its flags. -/
structure K.R where
  v : Int
  st : Bool
  k : Int
  a : Int
  b : Int
def K.R.val (r : K.R) : Value := .agg #[.int .u32 r.v, .bool r.st, .int .i64 r.k, .int .u32 r.a, .int .u32 r.b]
theorem Op_all (c a b : Int) (ha : 0 ≤ a ∧ a < 4294967296) (hb : 0 ≤ b ∧ b < 4294967296) (w : World) : Calls Tryz.prog 112 #[.int .i64 c, .int .u32 a, .int .u32 b] w fun e w' => e = .returned (.int .u32 (W.op c a b)) ∧ Bel w w' := Op_any c a b ha.1 ha.2 hb.1 hb.2 w
/-- The map at g has these entries. -/
def E.Mp (g : Nat) (es : Array MapEntry) (c : Nat) (w : World) : Prop := w.heap[g]? = some (.map es c)
/-- The same of a map that is new. -/
def E.Mo (w0 : World) (g : Nat) (es : Array MapEntry) (c : Nat) (w : World) : Prop := w0.heap.size ≤ g ∧ E.Mp g es c w
theorem run_lookup_one {P : Program} (w : World) (mt kt et : TypeId) (k : IntKind) (r : Nat) (es : Array MapEntry) (clock : Nat) (a : Int) (v : Value) (i : Nat)
    (hm : P.underlying mt = some (.map kt et)) (hk : P.underlying kt = some (.int k)) (hb : w.heap[r]? = some (.map es clock)) (hn : Instr.findNow (.int k) (.int k a) es.toList 0 = some (some (i, v))) :
    (Instr.lookup mt (.map (some r)) (.int k a) false).run P w = .ok v w := by
  have hc : (Instr.checkKey es.isEmpty 10000 kt (.int k a)).run P w = .ok () w := MapKept.run_checkKey hk (by exact rfl) es.isEmpty 9999
  have hf := MapKept.run_findKey (P := P) (w := w) hk (k := .int k a) hn
  unfold Instr.lookup
  simp [run_underlying hm, MapKept.run_getObj_map hb, hc, hf, Result.andThen]
theorem run_mapUpdate_at {P : Program} (w : World) (mt kt et : TypeId) (k : IntKind) (r : Nat) (es : Array MapEntry) (clock : Nat) (a : Int) (v : Value)
    (hm : P.underlying mt = some (.map kt et)) (hk : P.underlying kt = some (.int k)) (hb : w.heap[r]? = some (.map es clock)) (hn : Instr.findNow (.int k) (.int k a) es.toList 0 = some none) :
    (Instr.mapUpdate mt (.map (some r)) (.int k a) v).run P w = .ok () { w with heap := w.heap.setIfInBounds r (.map (es.push ⟨.int k a, v, clock⟩) (clock + 1)) } := by
  have hc : (Instr.checkKey false 10000 kt (.int k a)).run P w = .ok () w := MapKept.run_checkKey hk (by exact rfl) false 9999
  have hf := MapKept.run_findKey (P := P) (w := w) hk (k := .int k a) hn
  unfold Instr.mapUpdate
  simp [run_underlying hm, MapKept.run_getObj_map hb, MapKept.run_setObj_map _ hb, hc, hf, Result.andThen]
theorem E.Hp.notmap {S : Nat → Prop} {w0 w : World} {X : World → Prop} {L : List (Nat × List Value)} {g c : Nat} {es : Array MapEntry} (h : E.Hp S w0 X L w) (hm : E.Mp g es c w) (hne : A.ne L = true) : g ∉ L.map (·.1) := fun hx => by
  obtain ⟨p, hp, e⟩ := List.mem_map.1 hx
  have hq := List.all_eq_true.1 hne p hp
  cases hc : p.2 with
  | nil => rw [hc] at hq; cases hq
  | cons v l =>
    have := h.mem p hp 0 v (by rw [hc]; rfl)
    rw [World.cell?, e] at this
    unfold E.Mp at hm
    simp only [hm] at this
    cases this
theorem E.Mp.lt {g c : Nat} {es : Array MapEntry} {w : World} (hm : E.Mp g es c w) : g < w.heap.size := by
  unfold E.Mp at hm
  rcases Nat.lt_or_ge g w.heap.size with k | k
  · exact k
  · rw [Array.getElem?_eq_none k] at hm; cases hm
theorem E.Hp.setMap {S : Nat → Prop} {w0 w : World} {L : List (Nat × List Value)} {g c c' : Nat} {es es' : Array MapEntry} (h : E.Hp S w0 (E.Mo w0 g es c) L w) (hne : A.ne L = true) : E.Hp S w0 (E.Mo w0 g es' c') L { w with heap := w.heap.setIfInBounds g (.map es' c') } := by
  obtain ⟨hg, hm⟩ := h.x
  have hn := h.notmap hm hne
  have hs := MapKept.heap_set (w := w) (o' := .map es' c') hm
  have hz : (w.heap.setIfInBounds g (.map es' c')).size = w.heap.size := by simp
  have ne : ∀ p ∈ L, p.1 ≠ g := fun p hp e => hn (List.mem_map.2 ⟨p, hp, e⟩)
  refine ⟨⟨h.ch.os, h.ch.tape, h.ch.output, by show w0.heap.size ≤ (w.heap.setIfInBounds g _).size; rw [hz]; exact h.ch.size, fun b hb hS => ?_⟩, fun p hp i v hv => ?_, fun p hp i => ?_, fun p hp => by show p.1 < (w.heap.setIfInBounds g _).size; rw [hz]; exact h.lt p hp, h.own, h.nodup, fun w' h1 h2 => ⟨hg, ?_⟩⟩
  · show (w.heap.setIfInBounds g _)[b]? = _
    rw [hs.2 b (by omega)]; exact h.ch.block b hb hS
  · have := h.mem p hp i v hv
    unfold World.cell? at this ⊢
    show (match (w.heap.setIfInBounds g _)[p.1]? with | some (.cells c _ _) => _ | _ => none) = _
    rw [hs.2 p.1 (ne p hp)]; exact this
  · have := h.fz p hp i
    unfold World.frozen? at this ⊢
    show (match (w.heap.setIfInBounds g _)[p.1]? with | some (.cells _ _ (lo, hi)) => _ | _ => false) = _
    rw [hs.2 p.1 (ne p hp)]; exact this
  · have h1 : w.heap.size ≤ w'.heap.size := by have : (w.heap.setIfInBounds g (.map es' c')).size ≤ w'.heap.size := h1; rwa [hz] at this
    unfold E.Mp
    rw [h2 g (by show g < (w.heap.setIfInBounds g _).size; rw [hz]; exact hm.lt) hn]
    exact hs.1
section
variable {P : Program} {n : Nat} {ops : Array Oper} {Q : Exit → Act → World → Prop} {S : Nat → Prop} {w0 : World} {X : World → Prop} {L : List (Nat × List Value)} {l : List Oper} {fr : E.Fr}
variable {T : TypeId} {d : Nat} {pos : String} {af : Array Edge} {gd : Option (Nat × Bool)}
theorem E.G.mk {t : TypeId} (hck : E.ck n ops fr ⟨some d, .makeMap t none, T, pos, af, gd⟩ = true) (k : ∀ g, E.G P n ops Q l ((d, .map (some g)) :: fr) S w0 (E.Mo w0 g #[] 0) L) : E.G P n ops Q (⟨some d, .makeMap t none, T, pos, af, gd⟩ :: l) fr S w0 X L := by
  intro a w hs hh
  refine E.step (hs.want (E.ck_w hck)) ?_
  unfold Oper.wp
  rw [hs.exec (E.ck_k hck)]
  have : (execOp (E.ev fr) ⟨some d, .makeMap t none, T, pos, af, gd⟩).run P w = .ok (.value (.map (some w.heap.size))) (w.alloc (.map #[] 0)) := by
    show (do let r ← Instr.makeMap t none; pure (Next.value r) : Sem Next).run P w = _
    rw [Sem.run_bind, run_makeMap]; rfl
  rw [this]
  have hsz : (w.alloc (.map #[] 0)).heap.size = w.heap.size + 1 := by unfold World.alloc; simp
  refine k w.heap.size _ _ (hs.put (E.ck_f hck) _) (((hh.bel (Bel.alloc (Bel.refl _) _)).addX (Y := E.Mo w0 w.heap.size #[] 0) fun w' h1 h2 => ⟨hh.ch.size, ?_⟩).monoX fun _ x => x.2)
  unfold E.Mp
  rw [h2 w.heap.size (by omega) fun hm => by obtain ⟨p, hp, e⟩ := List.mem_map.1 hm; have := hh.lt p hp; omega]
  exact (MapKept.heap_alloc w _).1
theorem E.G.ins {mt kt et : TypeId} {x y z : Operand} {kd : IntKind} {i : Int} {v : Value} {g c : Nat} {es : Array MapEntry} (hm : P.underlying mt = some (.map kt et)) (hk : P.underlying kt = some (.int kd)) (hck : E.ck n ops fr ⟨none, .insert mt x y z, T, pos, af, gd⟩ = true)
    (hx : E.ev fr x = .map (some g)) (hy : E.ev fr y = .int kd i) (hz : E.ev fr z = v) (hn : Instr.findNow (.int kd) (.int kd i) es.toList 0 = some none) (hne : A.ne L = true)
    (k : E.G P n ops Q l fr S w0 (E.Mo w0 g (es.push ⟨.int kd i, v, c⟩) (c + 1)) L) : E.G P n ops Q (⟨none, .insert mt x y z, T, pos, af, gd⟩ :: l) fr S w0 (E.Mo w0 g es c) L := by
  intro a w hs hh
  refine E.step (hs.want (E.ck_w hck)) ?_
  unfold Oper.wp
  rw [hs.exec (E.ck_k hck)]
  have h1 := run_mapUpdate_at (P := P) w mt kt et kd g es c i v hm hk hh.x.2 hn
  have : (execOp (E.ev fr) ⟨none, .insert mt x y z, T, pos, af, gd⟩).run P w = .ok .skip { w with heap := w.heap.setIfInBounds g (.map (es.push ⟨.int kd i, v, c⟩) (c + 1)) } := by
    show (do Instr.mapUpdate mt (E.ev _ x) (E.ev _ y) (E.ev _ z); pure Next.skip : Sem Next).run P _ = _
    rw [hx, hy, hz, Sem.run_bind, h1]; rfl
  rw [this]
  exact k _ _ hs (hh.setMap hne)
theorem E.look1 {t : TypeId} {x ix : Operand} {kd : IntKind} {i : Int} {g : Nat} {v : Value} {w : World} {dd : Option Nat} (hx : E.ev fr x = .map (some g)) (hi : E.ev fr ix = .int kd i) (hr : (Instr.lookup t (.map (some g)) (.int kd i) false).run P w = .ok v w) :
    (execOp (E.ev fr) ⟨dd, .lookup t x ix false, T, pos, af, gd⟩).run P w = .ok (.value v) w := by
  show (do let r ← Instr.lookup t (E.ev fr x) (E.ev fr ix) false; pure (Next.value r) : Sem Next).run P w = _
  rw [hx, hi, Sem.run_bind, hr]; rfl
theorem E.G.monoX {X' : World → Prop} (hx : ∀ w, X w → X' w) (k : E.G P n ops Q l fr S w0 X' L) : E.G P n ops Q l fr S w0 X L := fun a w h1 h2 => k a w h1 (h2.monoX hx)
end
theorem A.of_hp {S : Nat → Prop} {w0 w : World} {X : World → Prop} {L : List (Nat × List Value)} (h : E.Hp S w0 X L w) (i : Nat) {g : Nat} {cs : List Value} (hL : L[i]? = some (g, cs)) (hne : cs.isEmpty = false) : A.Has [A.blk g cs] w (fun x => x = g) (fun x => x = g) := by
  have hm := List.mem_of_getElem? hL
  refine ⟨fun x => x = g, fun x => x = g, fun _ => False, fun _ => False, ⟨h.mem _ hm, h.fz _ hm, h.lt _ hm, fun _ => Iff.rfl, fun _ => Iff.rfl, ?_⟩, ⟨fun _ h => h, fun _ h => h⟩, fun _ _ h => h, fun _ h => h.elim, fun x => by simp, fun x => by simp⟩
  rintro rfl; cases hne
theorem A.of_hp2 {S : Nat → Prop} {w0 w : World} {X : World → Prop} {L : List (Nat × List Value)} (h : E.Hp S w0 X L w) (i j : Nat) {g1 g2 : Nat} {c1 c2 : List Value} (hi : L[i]? = some (g1, c1)) (hj : L[j]? = some (g2, c2)) (n1 : c1.isEmpty = false) (n2 : c2.isEmpty = false) (hne : i ≠ j) : A.Has [A.blk g1 c1, A.blk g2 c2] w (fun x => x = g1 ∨ x = g2) (fun x => x = g1 ∨ x = g2) := by
  have hg : g1 ≠ g2 := fun e => hne (E.nodup_of h.nodup hi hj e)
  have h1 := A.of_hp h i hi n1
  have h2 := A.of_hp h j hj n2
  exact h1.join h2 (fun x hx hy => hg (hx.symm.trans hy)) (fun x hx hy => hg (hy.symm.trans hx))
/-- What a call that starts with nothing knows behind it, at its caller's. -/
theorem E.Hp.over {S : Nat → Prop} {w0 w w' : World} {X : World → Prop} {L L2 : List (Nat × List Value)} {g c : Nat} {es : Array MapEntry} (h : E.Hp S w0 X L w) (k : E.Hp (fun _ => False) w (E.Mo w g es c) L2 w') (hne : A.ne L2 = true) : E.Hp S w0 (fun u => X u ∧ E.Mp g es c u) (L2 ++ L) w' := by
  obtain ⟨hg, hm⟩ := k.x
  have hn := k.notmap hm hne
  have same : ∀ b, b < w.heap.size → w'.heap[b]? = w.heap[b]? := fun b hb => k.ch.block b hb (fun f => f)
  have new : ∀ p ∈ L2, w.heap.size ≤ p.1 := fun p hp => Nat.le_of_not_lt fun x => k.own p hp x
  have hs := k.ch.size
  refine ⟨h.ch.trans' k.ch (fun _ _ f => f.elim), fun p hp i v hv => ?_, fun p hp i => ?_, fun p hp => ?_, fun p hp hl => ?_, ?_, fun w2 h1 h2 => ⟨h.ext w2 (Nat.le_trans hs h1) fun b hb hL => ?_, ?_⟩⟩
  · rcases List.mem_append.1 hp with hp | hp
    · exact k.mem p hp i v hv
    · have := h.mem p hp i v hv
      unfold World.cell? at this ⊢
      rw [show w'.heap[p.1]? = w.heap[p.1]? from same _ (h.lt p hp)]; exact this
  · rcases List.mem_append.1 hp with hp | hp
    · exact k.fz p hp i
    · have := h.fz p hp i
      unfold World.frozen? at this ⊢
      rw [show w'.heap[p.1]? = w.heap[p.1]? from same _ (h.lt p hp)]; exact this
  · rcases List.mem_append.1 hp with hp | hp
    · exact k.lt p hp
    · exact Nat.lt_of_lt_of_le (h.lt p hp) hs
  · rcases List.mem_append.1 hp with hp | hp
    · have := new p hp; have := h.ch.size; omega
    · exact h.own p hp hl
  · rw [List.map_append, List.nodup_append]
    refine ⟨k.nodup, h.nodup, fun x hx y hy e => ?_⟩
    obtain ⟨p, hp, rfl⟩ := List.mem_map.1 hx
    obtain ⟨q, hq, rfl⟩ := List.mem_map.1 hy
    have := new p hp; have := h.lt q hq; omega
  · rw [h2 b (Nat.lt_of_lt_of_le hb hs) ?_]
    · exact same b hb
    · rw [List.map_append, List.mem_append]
      rintro (hx | hx)
      · obtain ⟨p, hp, rfl⟩ := List.mem_map.1 hx; have := new p hp; omega
      · exact hL hx
  · unfold E.Mp
    rw [h2 g hm.lt ?_]
    · exact hm
    · rw [List.map_append, List.mem_append]
      rintro (hx | hx)
      · exact hn hx
      · obtain ⟨p, hp, e⟩ := List.mem_map.1 hx; have := h.lt p hp; omega
def K.mov (a b c : Int) : K.R := ⟨b, true, 0, 0, 0⟩
theorem Mov_a (a b c : Int) (w : World) : Calls Tryz.prog 113 #[.int .u32 a, .int .u32 b, .int .i64 c] w fun e w' => e = .returned (.agg #[.int .u32 ((K.mov a b c).v), .bool ((K.mov a b c).st), .int .i64 ((K.mov a b c).k), .int .u32 ((K.mov a b c).a), .int .u32 ((K.mov a b c).b)]) ∧ Bel w w' := by
 exact E.enter (n := 9) (S := fun _ => False) Tryz.func113 rfl rfl Nz.k (E.Hp.start w) (E.sr (E.nw [E.u 0, .bool false, E.i 0, E.u 0, E.u 0] 144 (fun g1 => E.tr (E.op (E.u b) (E.vl (.agg #[E.u b, .bool true, E.i 0, E.u 0, E.u 0]) (fun w h => E.run_build #[E.u b, .bool true, E.i 0, E.u 0, E.u 0] Nz.k w) (E.st 0 [E.u b, .bool true, E.i 0, E.u 0, E.u 0] rfl rfl (E.To.code (E.C.ret (E.b0 Tryz.f113 [.agg #[E.u b, .bool true, E.i 0, E.u 0, E.u 0]] (fun w h => ⟨rfl, h.ch.bel (fun _ h => h.elim)⟩))))))))))
def K.add (a b c : Int) : K.R := ⟨(IntKind.wrap .u32 (a + b)), true, 1, a, b⟩
theorem Add_a (a b c : Int) (w : World) : Calls Tryz.prog 114 #[.int .u32 a, .int .u32 b, .int .i64 c] w fun e w' => e = .returned (.agg #[.int .u32 ((K.add a b c).v), .bool ((K.add a b c).st), .int .i64 ((K.add a b c).k), .int .u32 ((K.add a b c).a), .int .u32 ((K.add a b c).b)]) ∧ Bel w w' := by
 refine E.enter (n := 13) (S := fun _ => False) Tryz.func114 rfl rfl Nz.k (E.Hp.start w) (E.sr (E.nw [E.u 0, .bool false, E.i 0, E.u 0, E.u 0] 144 (fun g1 => E.tr (E.op (E.u a) (E.op (E.u b) (E.op (E.u (IntKind.wrap .u32 (a + b))) (E.op (E.u a) (E.op (E.u b) (E.vl (.agg #[E.u (IntKind.wrap .u32 (a + b)), .bool true, E.i 1, E.u a, E.u b]) (fun w h => E.run_build #[E.u (IntKind.wrap .u32 (a + b)), .bool true, E.i 1, E.u a, E.u b] Nz.k w) (E.st 0 [E.u (IntKind.wrap .u32 (a + b)), .bool true, E.i 1, E.u a, E.u b] rfl rfl (E.To.code ?_)))))))))))
 exact E.wk [(6, E.pt g1)] [(g1, [E.u (IntKind.wrap .u32 (a + b)), .bool true, E.i 1, E.u a, E.u b])] Nz.sub (E.C.ret (E.b0 Tryz.f114 [.agg #[E.u (IntKind.wrap .u32 (a + b)), .bool true, E.i 1, E.u a, E.u b]] (fun w h => ⟨rfl, h.ch.bel (fun _ h => h.elim)⟩)))
def K.adc (a b c : Int) : K.R := ⟨(IntKind.wrap .u32 ((IntKind.wrap .u32 (a + b)) + (IntKind.wrap .u32 c))), true, (IntKind.wrap .i64 (1 + c)), a, b⟩
theorem Adc_a (a b c : Int) (w : World) : Calls Tryz.prog 115 #[.int .u32 a, .int .u32 b, .int .i64 c] w fun e w' => e = .returned (.agg #[.int .u32 ((K.adc a b c).v), .bool ((K.adc a b c).st), .int .i64 ((K.adc a b c).k), .int .u32 ((K.adc a b c).a), .int .u32 ((K.adc a b c).b)]) ∧ Bel w w' := by
 refine E.enter (n := 18) (S := fun _ => False) Tryz.func115 rfl rfl Nz.k (E.Hp.start w) (E.sr (E.nw [E.u 0, .bool false, E.i 0, E.u 0, E.u 0] 144 (fun g1 => E.tr (E.op (E.u a) (E.op (E.u b) (E.op (E.u (IntKind.wrap .u32 (a + b))) (E.op (E.i c) (E.op (E.u (IntKind.wrap .u32 c)) (E.op (E.u (IntKind.wrap .u32 ((IntKind.wrap .u32 (a + b)) + (IntKind.wrap .u32 c)))) (E.op (E.i c) (E.op (E.i (IntKind.wrap .i64 (1 + c))) ?_)))))))))))
 exact E.op (E.u a) (E.op (E.u b) (E.vl (.agg #[E.u (IntKind.wrap .u32 ((IntKind.wrap .u32 (a + b)) + (IntKind.wrap .u32 c))), .bool true, E.i (IntKind.wrap .i64 (1 + c)), E.u a, E.u b]) (fun w h => E.run_build #[E.u (IntKind.wrap .u32 ((IntKind.wrap .u32 (a + b)) + (IntKind.wrap .u32 c))), .bool true, E.i (IntKind.wrap .i64 (1 + c)), E.u a, E.u b] Nz.k w) (E.st 0 [E.u (IntKind.wrap .u32 ((IntKind.wrap .u32 (a + b)) + (IntKind.wrap .u32 c))), .bool true, E.i (IntKind.wrap .i64 (1 + c)), E.u a, E.u b] rfl rfl (E.To.code (E.wk [(6, E.pt g1)] [(g1, [E.u (IntKind.wrap .u32 ((IntKind.wrap .u32 (a + b)) + (IntKind.wrap .u32 c))), .bool true, E.i (IntKind.wrap .i64 (1 + c)), E.u a, E.u b])] Nz.sub (E.C.ret (E.b0 Tryz.f115 [.agg #[E.u (IntKind.wrap .u32 ((IntKind.wrap .u32 (a + b)) + (IntKind.wrap .u32 c))), .bool true, E.i (IntKind.wrap .i64 (1 + c)), E.u a, E.u b]] (fun w h => ⟨rfl, h.ch.bel (fun _ h => h.elim)⟩))))))))
def K.sub (a b c : Int) : K.R := ⟨(IntKind.wrap .u32 (a - b)), true, 3, a, b⟩
theorem Sub_a (a b c : Int) (w : World) : Calls Tryz.prog 116 #[.int .u32 a, .int .u32 b, .int .i64 c] w fun e w' => e = .returned (.agg #[.int .u32 ((K.sub a b c).v), .bool ((K.sub a b c).st), .int .i64 ((K.sub a b c).k), .int .u32 ((K.sub a b c).a), .int .u32 ((K.sub a b c).b)]) ∧ Bel w w' := by
 refine E.enter (n := 13) (S := fun _ => False) Tryz.func116 rfl rfl Nz.k (E.Hp.start w) (E.sr (E.nw [E.u 0, .bool false, E.i 0, E.u 0, E.u 0] 144 (fun g1 => E.tr (E.op (E.u a) (E.op (E.u b) (E.op (E.u (IntKind.wrap .u32 (a - b))) (E.op (E.u a) (E.op (E.u b) (E.vl (.agg #[E.u (IntKind.wrap .u32 (a - b)), .bool true, E.i 3, E.u a, E.u b]) (fun w h => E.run_build #[E.u (IntKind.wrap .u32 (a - b)), .bool true, E.i 3, E.u a, E.u b] Nz.k w) (E.st 0 [E.u (IntKind.wrap .u32 (a - b)), .bool true, E.i 3, E.u a, E.u b] rfl rfl (E.To.code ?_)))))))))))
 exact E.wk [(6, E.pt g1)] [(g1, [E.u (IntKind.wrap .u32 (a - b)), .bool true, E.i 3, E.u a, E.u b])] Nz.sub (E.C.ret (E.b0 Tryz.f116 [.agg #[E.u (IntKind.wrap .u32 (a - b)), .bool true, E.i 3, E.u a, E.u b]] (fun w h => ⟨rfl, h.ch.bel (fun _ h => h.elim)⟩)))
def K.sbb (a b c : Int) : K.R := ⟨(IntKind.wrap .u32 ((IntKind.wrap .u32 (a - b)) - (IntKind.wrap .u32 (IntKind.wrap .i64 (1 - c))))), true, (IntKind.wrap .i64 (4 - c)), a, b⟩
theorem Sbb_a (a b c : Int) (w : World) : Calls Tryz.prog 117 #[.int .u32 a, .int .u32 b, .int .i64 c] w fun e w' => e = .returned (.agg #[.int .u32 ((K.sbb a b c).v), .bool ((K.sbb a b c).st), .int .i64 ((K.sbb a b c).k), .int .u32 ((K.sbb a b c).a), .int .u32 ((K.sbb a b c).b)]) ∧ Bel w w' := by
 refine E.enter (n := 19) (S := fun _ => False) Tryz.func117 rfl rfl Nz.k (E.Hp.start w) (E.sr (E.nw [E.u 0, .bool false, E.i 0, E.u 0, E.u 0] 144 (fun g1 => E.tr (E.op (E.u a) (E.op (E.u b) (E.op (E.u (IntKind.wrap .u32 (a - b))) (E.op (E.i c) (E.op (E.i (IntKind.wrap .i64 (1 - c))) (E.op (E.u (IntKind.wrap .u32 (IntKind.wrap .i64 (1 - c)))) (E.op (E.u (IntKind.wrap .u32 ((IntKind.wrap .u32 (a - b)) - (IntKind.wrap .u32 (IntKind.wrap .i64 (1 - c)))))) (E.op (E.i c) ?_)))))))))))
 exact E.op (E.i (IntKind.wrap .i64 (4 - c))) (E.op (E.u a) (E.op (E.u b) (E.vl (.agg #[E.u (IntKind.wrap .u32 ((IntKind.wrap .u32 (a - b)) - (IntKind.wrap .u32 (IntKind.wrap .i64 (1 - c))))), .bool true, E.i (IntKind.wrap .i64 (4 - c)), E.u a, E.u b]) (fun w h => E.run_build #[E.u (IntKind.wrap .u32 ((IntKind.wrap .u32 (a - b)) - (IntKind.wrap .u32 (IntKind.wrap .i64 (1 - c))))), .bool true, E.i (IntKind.wrap .i64 (4 - c)), E.u a, E.u b] Nz.k w) (E.st 0 [E.u (IntKind.wrap .u32 ((IntKind.wrap .u32 (a - b)) - (IntKind.wrap .u32 (IntKind.wrap .i64 (1 - c))))), .bool true, E.i (IntKind.wrap .i64 (4 - c)), E.u a, E.u b] rfl rfl (E.To.code (E.wk [(6, E.pt g1)] [(g1, [E.u (IntKind.wrap .u32 ((IntKind.wrap .u32 (a - b)) - (IntKind.wrap .u32 (IntKind.wrap .i64 (1 - c))))), .bool true, E.i (IntKind.wrap .i64 (4 - c)), E.u a, E.u b])] Nz.sub (E.C.ret (E.b0 Tryz.f117 [.agg #[E.u (IntKind.wrap .u32 ((IntKind.wrap .u32 (a - b)) - (IntKind.wrap .u32 (IntKind.wrap .i64 (1 - c))))), .bool true, E.i (IntKind.wrap .i64 (4 - c)), E.u a, E.u b]] (fun w h => ⟨rfl, h.ch.bel (fun _ h => h.elim)⟩)))))))))
def K.cmp (a b c : Int) : K.R := ⟨a, false, 3, a, b⟩
theorem Cmp_a (a b c : Int) (w : World) : Calls Tryz.prog 118 #[.int .u32 a, .int .u32 b, .int .i64 c] w fun e w' => e = .returned (.agg #[.int .u32 ((K.cmp a b c).v), .bool ((K.cmp a b c).st), .int .i64 ((K.cmp a b c).k), .int .u32 ((K.cmp a b c).a), .int .u32 ((K.cmp a b c).b)]) ∧ Bel w w' := by
 exact E.enter (n := 11) (S := fun _ => False) Tryz.func118 rfl rfl Nz.k (E.Hp.start w) (E.sr (E.nw [E.u 0, .bool false, E.i 0, E.u 0, E.u 0] 144 (fun g1 => E.tr (E.op (E.u a) (E.op (E.u a) (E.op (E.u b) (E.vl (.agg #[E.u a, .bool false, E.i 3, E.u a, E.u b]) (fun w h => E.run_build #[E.u a, .bool false, E.i 3, E.u a, E.u b] Nz.k w) (E.st 0 [E.u a, .bool false, E.i 3, E.u a, E.u b] rfl rfl (E.To.code (E.C.ret (E.b0 Tryz.f118 [.agg #[E.u a, .bool false, E.i 3, E.u a, E.u b]] (fun w h => ⟨rfl, h.ch.bel (fun _ h => h.elim)⟩))))))))))))
def K.test (a b c : Int) : K.R := ⟨a, false, 5, (bits .and .u32 a b), 0⟩
theorem Test_a (a b c : Int) (w : World) : Calls Tryz.prog 119 #[.int .u32 a, .int .u32 b, .int .i64 c] w fun e w' => e = .returned (.agg #[.int .u32 ((K.test a b c).v), .bool ((K.test a b c).st), .int .i64 ((K.test a b c).k), .int .u32 ((K.test a b c).a), .int .u32 ((K.test a b c).b)]) ∧ Bel w w' := by
 refine E.enter (n := 12) (S := fun _ => False) Tryz.func119 rfl rfl Nz.k (E.Hp.start w) (E.sr (E.nw [E.u 0, .bool false, E.i 0, E.u 0, E.u 0] 144 (fun g1 => E.tr (E.op (E.u a) (E.op (E.u a) (E.op (E.u b) (E.op (E.u (bits .and .u32 a b)) (E.vl (.agg #[E.u a, .bool false, E.i 5, E.u (bits .and .u32 a b), E.u 0]) (fun w h => E.run_build #[E.u a, .bool false, E.i 5, E.u (bits .and .u32 a b), E.u 0] Nz.k w) (E.st 0 [E.u a, .bool false, E.i 5, E.u (bits .and .u32 a b), E.u 0] rfl rfl (E.To.code (E.wk [(6, E.pt g1)] [(g1, [E.u a, .bool false, E.i 5, E.u (bits .and .u32 a b), E.u 0])] Nz.sub ?_)))))))))))
 exact E.C.ret (E.b0 Tryz.f119 [.agg #[E.u a, .bool false, E.i 5, E.u (bits .and .u32 a b), E.u 0]] (fun w h => ⟨rfl, h.ch.bel (fun _ h => h.elim)⟩))
def K.logic (v : Int) : K.R := ⟨v, true, 5, v, 0⟩
theorem Logic_a (v : Int) (w : World) : Calls Tryz.prog 109 #[.int .u32 v] w fun e w' => e = .returned (.agg #[.int .u32 ((K.logic v).v), .bool ((K.logic v).st), .int .i64 ((K.logic v).k), .int .u32 ((K.logic v).a), .int .u32 ((K.logic v).b)]) ∧ Bel w w' := by
 exact E.enter (n := 6) (S := fun _ => False) Tryz.func109 rfl rfl Nz.k (E.Hp.start w) (E.sr (E.nw [E.u 0, .bool false, E.i 0, E.u 0, E.u 0] 144 (fun g1 => E.tr (E.op (E.u v) (E.op (E.u v) (E.vl (.agg #[E.u v, .bool true, E.i 5, E.u v, E.u 0]) (fun w h => E.run_build #[E.u v, .bool true, E.i 5, E.u v, E.u 0] Nz.k w) (E.st 0 [E.u v, .bool true, E.i 5, E.u v, E.u 0] rfl rfl (E.To.code (E.C.ret (E.b0 Tryz.f109 [.agg #[E.u v, .bool true, E.i 5, E.u v, E.u 0]] (fun w h => ⟨rfl, h.ch.bel (fun _ h => h.elim)⟩)))))))))))
theorem By_rd {p1 p2 : Nat} (k a b c : Int) (ha : 0 ≤ a ∧ a < 4294967296) (hb : 0 ≤ b ∧ b < 4294967296) : A.Rd Tryz.prog 111 #[.int .u32 a, .int .u32 b, .int .i64 c, .pointer (some ⟨p1, 0, none⟩), .pointer (some ⟨p2, 0, none⟩)] [A.blk p1 [.func (.func 109) #[] #[]], A.blk p2 [.int .i64 k]] (.agg #[.int .u32 ((K.logic (W.op k a b)).v), .bool ((K.logic (W.op k a b)).st), .int .i64 ((K.logic (W.op k a b)).k), .int .u32 ((K.logic (W.op k a b)).a), .int .u32 ((K.logic (W.op k a b)).b)]) := by
 intro w oo aa hh
 refine E.enter (n := 15) (S := fun _ => False) Tryz.func111 rfl rfl Nz.k (A.startY hh) (E.sr (E.nw [E.u 0, .bool false, E.i 0, E.u 0, E.u 0] 144 (fun g1 => E.To.code (E.C.seq (E.C.held (E.Hp (fun _ => False) w (A.Y [A.blk p1 [.func (.func 109) #[] #[]], A.blk p2 [E.i k]]) []) Nz.k (E.tb 0 (.func (.func 109) #[] #[]) rfl (fun w h => A.Y.bld h.x (k := 0) (j := 0) rfl Nz.k Nz.k) (E.tb 1 (E.i k) rfl (fun w h => A.Y.bld h.x (k := 1) (j := 0) rfl Nz.k Nz.k) (E.ta 2 (E.u a) rfl (E.ta 3 (E.u b) rfl (E.al 4 rfl (E.ca (E.u (W.op k a b)) (fun w h => Op_all k a b ha hb w) ?_)))))))))))
 exact E.bk (E.al 5 rfl (E.ca (.agg #[E.u ((K.logic (W.op k a b)).v), .bool ((K.logic (W.op k a b)).st), E.i ((K.logic (W.op k a b)).k), E.u ((K.logic (W.op k a b)).a), E.u ((K.logic (W.op k a b)).b)]) (fun w h => Logic_a (W.op k a b) w) (E.bk (E.al 6 rfl (E.st 0 [E.u ((K.logic (W.op k a b)).v), .bool ((K.logic (W.op k a b)).st), E.i ((K.logic (W.op k a b)).k), E.u ((K.logic (W.op k a b)).a), E.u ((K.logic (W.op k a b)).b)] rfl rfl (E.bk (E.H.done Nz.k (E.To.code (E.wk [(8, E.pt g1)] [(g1, [E.u ((K.logic (W.op k a b)).v), .bool ((K.logic (W.op k a b)).st), E.i ((K.logic (W.op k a b)).k), E.u ((K.logic (W.op k a b)).a), E.u ((K.logic (W.op k a b)).b)])] Nz.sub (E.C.ret (E.b0 Tryz.f111 [.agg #[E.u ((K.logic (W.op k a b)).v), .bool ((K.logic (W.op k a b)).st), E.i ((K.logic (W.op k a b)).k), E.u ((K.logic (W.op k a b)).a), E.u ((K.logic (W.op k a b)).b)]] (fun w h => ⟨rfl, h.ch.bel (fun _ h => h.elim)⟩))))))))))))
theorem By_new {S : Nat → Prop} {w0 : World} {X : World → Prop} {L : List (Nat × List Value)} (l : Nat) (k : Int) (w : World) (hh : E.Hp S w0 X L w) : Calls Tryz.prog 110 #[.int .i64 k, .pointer (some ⟨l, 0, none⟩)] w fun e w' => ∃ g, e = .returned (.func (.func 111) #[] #[.pointer (some ⟨l, 0, none⟩), .pointer (some ⟨g, 0, none⟩)]) ∧ E.Hp S w0 X ((g, [.int .i64 k]) :: L) w' := by
 exact E.enter (n := 5) (S := S) Tryz.func110 rfl rfl Nz.k (hh) (E.sr (E.nw [E.i k] 3 (fun g1 => E.op (.nilFunc) (E.tr (E.op (.func (.func 111) #[] #[E.pt l, E.pt g1]) (E.op (.func (.func 111) #[] #[E.pt l, E.pt g1]) (E.To.code (E.C.ret (E.bd Tryz.f110 [.func (.func 111) #[] #[E.pt l, E.pt g1]] (fun w h => ⟨g1, rfl, h.less Nz.sub⟩))))))))))
def K.opE (l : Nat) (c : Nat → Nat) : Array MapEntry := ((((((((((((((((#[] : Array MapEntry).push ⟨.int .i64 32, .func (.func 113) #[] #[], 0⟩).push ⟨.int .i64 33, .func (.func 114) #[] #[], 1⟩).push ⟨.int .i64 35, .func (.func 115) #[] #[], 2⟩).push ⟨.int .i64 34, .func (.func 116) #[] #[], 3⟩).push ⟨.int .i64 36, .func (.func 117) #[] #[], 4⟩).push ⟨.int .i64 40, .func (.func 118) #[] #[], 5⟩).push ⟨.int .i64 41, .func (.func 119) #[] #[], 6⟩).push ⟨.int .i64 37, .func (.func 111) #[] #[.pointer (some ⟨l, 0, none⟩), .pointer (some ⟨c 0, 0, none⟩)], 7⟩).push ⟨.int .i64 38, .func (.func 111) #[] #[.pointer (some ⟨l, 0, none⟩), .pointer (some ⟨c 1, 0, none⟩)], 8⟩).push ⟨.int .i64 39, .func (.func 111) #[] #[.pointer (some ⟨l, 0, none⟩), .pointer (some ⟨c 2, 0, none⟩)], 9⟩).push ⟨.int .i64 42, .func (.func 111) #[] #[.pointer (some ⟨l, 0, none⟩), .pointer (some ⟨c 3, 0, none⟩)], 10⟩).push ⟨.int .i64 43, .func (.func 111) #[] #[.pointer (some ⟨l, 0, none⟩), .pointer (some ⟨c 4, 0, none⟩)], 11⟩).push ⟨.int .i64 44, .func (.func 111) #[] #[.pointer (some ⟨l, 0, none⟩), .pointer (some ⟨c 5, 0, none⟩)], 12⟩).push ⟨.int .i64 45, .func (.func 111) #[] #[.pointer (some ⟨l, 0, none⟩), .pointer (some ⟨c 6, 0, none⟩)], 13⟩).push ⟨.int .i64 46, .func (.func 111) #[] #[.pointer (some ⟨l, 0, none⟩), .pointer (some ⟨c 7, 0, none⟩)], 14⟩)
/-- The blocks of the operations. -/
def K.opL (l : Nat) (c : Nat → Nat) : List (Nat × List Value) := [(c 7, [.int .i64 10]), (c 6, [.int .i64 9]), (c 5, [.int .i64 8]), (c 4, [.int .i64 12]), (c 3, [.int .i64 11]), (c 2, [.int .i64 7]), (c 1, [.int .i64 6]), (c 0, [.int .i64 5]), (l, [.func (.func 109) #[] #[]])]
def K.opG (o : Int) : FuncId := if o = 32 then 113 else if o = 33 then 114 else if o = 35 then 115 else if o = 34 then 116 else if o = 36 then 117 else if o = 40 then 118 else if o = 41 then 119 else 111
def K.opD (l : Nat) (c : Nat → Nat) (o : Int) : Array Value := if o = 37 then #[.pointer (some ⟨l, 0, none⟩), .pointer (some ⟨c 0, 0, none⟩)] else if o = 38 then #[.pointer (some ⟨l, 0, none⟩), .pointer (some ⟨c 1, 0, none⟩)] else if o = 39 then #[.pointer (some ⟨l, 0, none⟩), .pointer (some ⟨c 2, 0, none⟩)] else if o = 42 then #[.pointer (some ⟨l, 0, none⟩), .pointer (some ⟨c 3, 0, none⟩)] else if o = 43 then #[.pointer (some ⟨l, 0, none⟩), .pointer (some ⟨c 4, 0, none⟩)] else if o = 44 then #[.pointer (some ⟨l, 0, none⟩), .pointer (some ⟨c 5, 0, none⟩)] else if o = 45 then #[.pointer (some ⟨l, 0, none⟩), .pointer (some ⟨c 6, 0, none⟩)] else if o = 46 then #[.pointer (some ⟨l, 0, none⟩), .pointer (some ⟨c 7, 0, none⟩)] else #[]
def K.opv (l : Nat) (c : Nat → Nat) (o : Int) : Value := .func (.func (K.opG o)) #[] (K.opD l c o)
def K.res (o a b q : Int) : K.R := if o = 32 then K.mov a b q else if o = 33 then K.add a b q else if o = 35 then K.adc a b q else if o = 34 then K.sub a b q else if o = 36 then K.sbb a b q else if o = 40 then K.cmp a b q else if o = 41 then K.test a b q else K.logic (W.op (if o = 37 then 5 else if o = 38 then 6 else if o = 39 then 7 else if o = 42 then 11 else if o = 43 then 12 else if o = 44 then 8 else if o = 45 then 9 else 10) a b)
theorem K.look {g l : Nat} {c : Nat → Nat} {w : World} (h : E.Mp g (K.opE l c) 15 w) {o : Int} (ho : 32 ≤ o ∧ o ≤ 46) : (Instr.lookup 146 (.map (some g)) (.int .i64 o) false).run Tryz.prog w = .ok (K.opv l c o) w := by
  have hm : Tryz.prog.underlying 146 = some (.map 3 145) := by kernel_rfl
  have hk : Tryz.prog.underlying 3 = some (.int .i64) := by kernel_rfl
  rcases (by omega : o = 32 ∨ o = 33 ∨ o = 34 ∨ o = 35 ∨ o = 36 ∨ o = 37 ∨ o = 38 ∨ o = 39 ∨ o = 40 ∨ o = 41 ∨ o = 42 ∨ o = 43 ∨ o = 44 ∨ o = 45 ∨ o = 46) with rfl | rfl | rfl | rfl | rfl | rfl | rfl | rfl | rfl | rfl | rfl | rfl | rfl | rfl | rfl
  · exact run_lookup_one w _ _ _ .i64 g (K.opE l c) 15 32 _ 0 hm hk h rfl
  · exact run_lookup_one w _ _ _ .i64 g (K.opE l c) 15 33 _ 1 hm hk h rfl
  · exact run_lookup_one w _ _ _ .i64 g (K.opE l c) 15 34 _ 3 hm hk h rfl
  · exact run_lookup_one w _ _ _ .i64 g (K.opE l c) 15 35 _ 2 hm hk h rfl
  · exact run_lookup_one w _ _ _ .i64 g (K.opE l c) 15 36 _ 4 hm hk h rfl
  · exact run_lookup_one w _ _ _ .i64 g (K.opE l c) 15 37 _ 7 hm hk h rfl
  · exact run_lookup_one w _ _ _ .i64 g (K.opE l c) 15 38 _ 8 hm hk h rfl
  · exact run_lookup_one w _ _ _ .i64 g (K.opE l c) 15 39 _ 9 hm hk h rfl
  · exact run_lookup_one w _ _ _ .i64 g (K.opE l c) 15 40 _ 5 hm hk h rfl
  · exact run_lookup_one w _ _ _ .i64 g (K.opE l c) 15 41 _ 6 hm hk h rfl
  · exact run_lookup_one w _ _ _ .i64 g (K.opE l c) 15 42 _ 10 hm hk h rfl
  · exact run_lookup_one w _ _ _ .i64 g (K.opE l c) 15 43 _ 11 hm hk h rfl
  · exact run_lookup_one w _ _ _ .i64 g (K.opE l c) 15 44 _ 12 hm hk h rfl
  · exact run_lookup_one w _ _ _ .i64 g (K.opE l c) 15 45 _ 13 hm hk h rfl
  · exact run_lookup_one w _ _ _ .i64 g (K.opE l c) 15 46 _ 14 hm hk h rfl
theorem K.opgo {o : Int} (ho : 32 ≤ o ∧ o ≤ 46) (args : Array Value) (w : World) : (callFunc (K.opG o) args).run Tryz.prog w = .ok (.enter (K.opG o) args) w := by
  rcases (by omega : o = 32 ∨ o = 33 ∨ o = 34 ∨ o = 35 ∨ o = 36 ∨ o = 37 ∨ o = 38 ∨ o = 39 ∨ o = 40 ∨ o = 41 ∨ o = 42 ∨ o = 43 ∨ o = 44 ∨ o = 45 ∨ o = 46) with rfl | rfl | rfl | rfl | rfl | rfl | rfl | rfl | rfl | rfl | rfl | rfl | rfl | rfl | rfl <;> kernel_rfl
theorem K.opcall {S : Nat → Prop} {w0 w : World} {X : World → Prop} {L : List (Nat × List Value)} {l : Nat} {c : Nat → Nat} (h : E.Hp S w0 X (K.opL l c ++ L) w) {o : Int} (a b q : Int) (ho : 32 ≤ o ∧ o ≤ 46) (ha : 0 ≤ a ∧ a < 4294967296) (hb : 0 ≤ b ∧ b < 4294967296) : Calls Tryz.prog (K.opG o) (#[.int .u32 a, .int .u32 b, .int .i64 q] ++ K.opD l c o) w fun e w' => e = .returned (K.R.val (K.res o a b q)) ∧ Bel w w' := by
  rcases (by omega : o = 32 ∨ o = 33 ∨ o = 34 ∨ o = 35 ∨ o = 36 ∨ o = 37 ∨ o = 38 ∨ o = 39 ∨ o = 40 ∨ o = 41 ∨ o = 42 ∨ o = 43 ∨ o = 44 ∨ o = 45 ∨ o = 46) with rfl | rfl | rfl | rfl | rfl | rfl | rfl | rfl | rfl | rfl | rfl | rfl | rfl | rfl | rfl
  · exact Mov_a a b q w
  · exact Add_a a b q w
  · exact Sub_a a b q w
  · exact Adc_a a b q w
  · exact Sbb_a a b q w
  · exact By_rd (p1 := l) (p2 := c 0) 5 a b q ha hb w _ _ (A.of_hp2 h 8 7 rfl rfl rfl rfl (by decide))
  · exact By_rd (p1 := l) (p2 := c 1) 6 a b q ha hb w _ _ (A.of_hp2 h 8 6 rfl rfl rfl rfl (by decide))
  · exact By_rd (p1 := l) (p2 := c 2) 7 a b q ha hb w _ _ (A.of_hp2 h 8 5 rfl rfl rfl rfl (by decide))
  · exact Cmp_a a b q w
  · exact Test_a a b q w
  · exact By_rd (p1 := l) (p2 := c 3) 11 a b q ha hb w _ _ (A.of_hp2 h 8 4 rfl rfl rfl rfl (by decide))
  · exact By_rd (p1 := l) (p2 := c 4) 12 a b q ha hb w _ _ (A.of_hp2 h 8 3 rfl rfl rfl rfl (by decide))
  · exact By_rd (p1 := l) (p2 := c 5) 8 a b q ha hb w _ _ (A.of_hp2 h 8 2 rfl rfl rfl rfl (by decide))
  · exact By_rd (p1 := l) (p2 := c 6) 9 a b q ha hb w _ _ (A.of_hp2 h 8 1 rfl rfl rfl rfl (by decide))
  · exact By_rd (p1 := l) (p2 := c 7) 10 a b q ha hb w _ _ (A.of_hp2 h 8 0 rfl rfl rfl rfl (by decide))
abbrev Zr14a := fun g1 => ((.func (.func 110) #[] #[E.pt g1]) : Value)
abbrev Zr14b : List Value := [.func (.func 109) #[] #[]]
theorem operations_any  (w : World) : Calls Tryz.prog 80 #[] w fun e w' => ∃ i : Nat × Nat × (Nat → Nat), e = .returned (.map (some i.1)) ∧ E.Hp (fun _ => False) w (E.Mo w i.1 (K.opE i.2.1 i.2.2) 15) (K.opL i.2.1 i.2.2) w' := by
 refine E.enter (n := 22) (S := fun _ => False) Tryz.func80 rfl rfl Nz.k (E.Hp.start w) (E.sr (E.op (.map none) (E.tr (E.nw [.nilFunc] 178 (fun g1 => E.st 0 Zr14b rfl rfl (E.tr (E.op (Zr14a g1) (E.op (Zr14a g1) (E.tr (E.G.mk Nz.k (fun g2 => E.G.ins (kt := 3) (et := 145) Nz.k Nz.k Nz.k rfl rfl rfl (by rfl) Nz.k ?_)))))))))))
 refine E.G.ins (kt := 3) (et := 145) Nz.k Nz.k Nz.k rfl rfl rfl (by rfl) Nz.k (E.G.ins (kt := 3) (et := 145) Nz.k Nz.k Nz.k rfl rfl rfl (by rfl) Nz.k (E.G.ins (kt := 3) (et := 145) Nz.k Nz.k Nz.k rfl rfl rfl (by rfl) Nz.k (E.G.ins (kt := 3) (et := 145) Nz.k Nz.k Nz.k rfl rfl rfl (by rfl) Nz.k (E.G.ins (kt := 3) (et := 145) Nz.k Nz.k Nz.k rfl rfl rfl (by rfl) Nz.k (E.G.ins (kt := 3) (et := 145) Nz.k Nz.k Nz.k rfl rfl rfl (by rfl) Nz.k (E.op (Zr14a g1) (E.G.callX (I := Nat) (fun _ => True) (fun g => .func (.func 111) #[] #[E.pt g1, E.pt g]) (fun _ => _) (fun g => (g, [E.i 5]) :: [(g1, Zr14b)]) (fun w h => (By_new g1 5 w h).mono fun e w1 ⟨g, he, hp⟩ => ⟨g, trivial, he, hp⟩) (fun w _ => Nz.k) Nz.k (fun c3 _ => E.G.ins (kt := 3) (et := 145) Nz.k Nz.k Nz.k rfl rfl rfl (by rfl) Nz.k (E.op (Zr14a g1) (E.G.callX (I := Nat) (fun _ => True) (fun g => .func (.func 111) #[] #[E.pt g1, E.pt g]) (fun _ => _) (fun g => (g, [E.i 6]) :: [(c3, [E.i 5]), (g1, Zr14b)]) (fun w h => (By_new g1 6 w h).mono fun e w1 ⟨g, he, hp⟩ => ⟨g, trivial, he, hp⟩) (fun w _ => Nz.k) Nz.k (fun c4 _ => E.G.ins (kt := 3) (et := 145) Nz.k Nz.k Nz.k rfl rfl rfl (by rfl) Nz.k ?_)))))))))))
 refine E.op (Zr14a g1) (E.G.callX (I := Nat) (fun _ => True) (fun g => .func (.func 111) #[] #[E.pt g1, E.pt g]) (fun _ => _) (fun g => (g, [E.i 7]) :: [(c4, [E.i 6]), (c3, [E.i 5]), (g1, Zr14b)]) (fun w h => (By_new g1 7 w h).mono fun e w1 ⟨g, he, hp⟩ => ⟨g, trivial, he, hp⟩) (fun w _ => Nz.k) Nz.k (fun c5 _ => E.G.ins (kt := 3) (et := 145) Nz.k Nz.k Nz.k rfl rfl rfl (by rfl) Nz.k (E.op (Zr14a g1) (E.G.callX (I := Nat) (fun _ => True) (fun g => .func (.func 111) #[] #[E.pt g1, E.pt g]) (fun _ => _) (fun g => (g, [E.i 11]) :: [(c5, [E.i 7]), (c4, [E.i 6]), (c3, [E.i 5]), (g1, Zr14b)]) (fun w h => (By_new g1 11 w h).mono fun e w1 ⟨g, he, hp⟩ => ⟨g, trivial, he, hp⟩) (fun w _ => Nz.k) Nz.k (fun c6 _ => E.G.ins (kt := 3) (et := 145) Nz.k Nz.k Nz.k rfl rfl rfl (by rfl) Nz.k (E.op (Zr14a g1) (E.G.callX (I := Nat) (fun _ => True) (fun g => .func (.func 111) #[] #[E.pt g1, E.pt g]) (fun _ => _) (fun g => (g, [E.i 12]) :: [(c6, [E.i 11]), (c5, [E.i 7]), (c4, [E.i 6]), (c3, [E.i 5]), (g1, Zr14b)]) (fun w h => (By_new g1 12 w h).mono fun e w1 ⟨g, he, hp⟩ => ⟨g, trivial, he, hp⟩) (fun w _ => Nz.k) Nz.k (fun c7 _ => E.G.ins (kt := 3) (et := 145) Nz.k Nz.k Nz.k rfl rfl rfl (by rfl) Nz.k (E.op (Zr14a g1) (E.G.callX (I := Nat) (fun _ => True) (fun g => .func (.func 111) #[] #[E.pt g1, E.pt g]) (fun _ => _) (fun g => (g, [E.i 8]) :: [(c7, [E.i 12]), (c6, [E.i 11]), (c5, [E.i 7]), (c4, [E.i 6]), (c3, [E.i 5]), (g1, Zr14b)]) (fun w h => (By_new g1 8 w h).mono fun e w1 ⟨g, he, hp⟩ => ⟨g, trivial, he, hp⟩) (fun w _ => Nz.k) Nz.k (fun c8 _ => E.G.ins (kt := 3) (et := 145) Nz.k Nz.k Nz.k rfl rfl rfl (by rfl) Nz.k ?_)))))))))))
 exact E.op (Zr14a g1) (E.G.callX (I := Nat) (fun _ => True) (fun g => .func (.func 111) #[] #[E.pt g1, E.pt g]) (fun _ => _) (fun g => (g, [E.i 9]) :: [(c8, [E.i 8]), (c7, [E.i 12]), (c6, [E.i 11]), (c5, [E.i 7]), (c4, [E.i 6]), (c3, [E.i 5]), (g1, Zr14b)]) (fun w h => (By_new g1 9 w h).mono fun e w1 ⟨g, he, hp⟩ => ⟨g, trivial, he, hp⟩) (fun w _ => Nz.k) Nz.k (fun c9 _ => E.G.ins (kt := 3) (et := 145) Nz.k Nz.k Nz.k rfl rfl rfl (by rfl) Nz.k (E.op (Zr14a g1) (E.G.callX (I := Nat) (fun _ => True) (fun g => .func (.func 111) #[] #[E.pt g1, E.pt g]) (fun _ => _) (fun g => (g, [E.i 10]) :: [(c9, [E.i 9]), (c8, [E.i 8]), (c7, [E.i 12]), (c6, [E.i 11]), (c5, [E.i 7]), (c4, [E.i 6]), (c3, [E.i 5]), (g1, Zr14b)]) (fun w h => (By_new g1 10 w h).mono fun e w1 ⟨g, he, hp⟩ => ⟨g, trivial, he, hp⟩) (fun w _ => Nz.k) Nz.k (fun c10 _ => E.G.ins (kt := 3) (et := 145) Nz.k Nz.k Nz.k rfl rfl rfl (by rfl) Nz.k (E.op (.map (some g2)) (E.op (.map (some g2)) (E.To.code (E.C.ret (E.bd Tryz.f80 [.map (some g2)] (fun w h => ⟨(g2, g1, fun k => [c3, c4, c5, c6, c7, c8, c9, c10].getD k 0), rfl, h⟩)))))))))))
/-- Whether n lies in one of the spans, from the j-th on. -/
def K.inAny (n : Int) (l : List (Int × Int)) : Bool := l.any fun s => decide (s.1 ≤ n) && decide (n ≤ s.2)
theorem K.inAny_drop (n : Int) (l : List (Int × Int)) (k : Nat) (h : k < l.length) : K.inAny n (l.drop k) = ((decide ((l.getD k (0, 0)).1 ≤ n) && decide (n ≤ (l.getD k (0, 0)).2)) || K.inAny n (l.drop (k + 1))) := by
  unfold K.inAny
  rw [List.drop_eq_getElem_cons h, List.any_cons, List.getD, List.getElem?_eq_getElem h]; rfl
theorem within_any (n : Int) (b o cap : Nat) (l : List (Int × Int)) (hl : l.length ≤ 1000) (w : World)
    (hc : ∀ j, j < l.length → w.cell? ⟨b, o + j * 2, none⟩ = some (.int .i64 (l.getD j (0, 0)).1)) (hd : ∀ j, j < l.length → w.cell? ⟨b, o + j * 2 + 1, none⟩ = some (.int .i64 (l.getD j (0, 0)).2)) :
    Calls Tryz.prog 128 #[.int .i64 n, .slice (some ⟨b, o, none⟩) l.length cap] w fun e w' => e = .returned (.bool (K.inAny n l)) ∧ Bel w w' := by
  have HI := hid (show K.inAny n l = K.inAny n (l.drop 0) from rfl)
  go_enter Tryz.func128, Tryz.ntmps128
  go_wp2
  go_loopw [9] (fun i wr => ∃ k : Nat, k ≤ l.length ∧ i = .int .i64 k ∧ Hid (K.inAny n l = K.inAny n (l.drop k)) ∧ Bel w wr) (fun i _ => l.length - (intOf i).toNat)
  case atStart => exact ⟨0, by omega, rfl, HI, Bel.refl _⟩
  case round =>
    clear HI
    obtain ⟨k, hk, rfl, HI, hb⟩ := hrel
    by_cases c1 : k < l.length
    · have hck := Bel.at hb (hc k c1)
      have hdk := Bel.at hb (hd k c1)
      have hD := K.inAny_drop n l k c1
      clear hc hd
      generalize (l.getD k (0, 0)).1 = p at *
      generalize (l.getD k (0, 0)).2 = q at *
      have HD := hid hD
      clear hD
      by_cases c2 : p ≤ n
      · by_cases c3 : n ≤ q
        · have HR := hid (show K.inAny n l = true by rw [HI.out, HD.out]; simp [c2, c3])
          go_wp2
          go_ret
          exact ⟨ret_bool (by rw [HR.out]), Nz.bel⟩
        · have HR := hid (show K.inAny n l = K.inAny n (l.drop (k + 1)) by rw [HI.out, HD.out]; simp [c3])
          go_wp2
          go_roundw
          case rel => exact ⟨k + 1, by omega, by go_num, HR, Nz.bel⟩
          case measure => simp [intOf]; omega
      · have HR := hid (show K.inAny n l = K.inAny n (l.drop (k + 1)) by rw [HI.out, HD.out]; simp [c2])
        go_wp2
        go_roundw
        case rel => exact ⟨k + 1, by omega, by go_num, HR, Nz.bel⟩
        case measure => simp [intOf]; omega
    · have HR := hid (show K.inAny n l = false by rw [HI.out, List.drop_eq_nil_of_le (by omega)]; rfl)
      go_wp2
      go_ret
      exact ⟨ret_bool (by rw [HR.out]), Nz.bel⟩
def K.t_reg (l : List UInt8) (n : Nat) (i : K.Ins) : K.Ins := { i with d := W.byt l (n) }
theorem reg_t : TakeOK 138 1 K.t_reg := reg_ok
def K.t_small (l : List UInt8) (n : Nat) (i : K.Ins) : K.Ins := { i with imm := W.sign (W.byt l (n)) 8 }
theorem small_t : TakeOK 143 1 K.t_small := small_ok
def K.t_full (l : List UInt8) (n : Nat) (i : K.Ins) : K.Ins := { i with imm := K.four l (n) }
theorem full_t : TakeOK 146 4 K.t_full := full_ok
def K.t_pair (l : List UInt8) (n : Nat) (i : K.Ins) : K.Ins := { i with d := W.byt l (n) / 16, s := W.byt l (n) % 16 }
theorem pair_t : TakeOK 140 1 K.t_pair := pair_ok
def K.t_index (l : List UInt8) (n : Nat) (i : K.Ins) : K.Ins := if W.byt l (n) = 8 then i else { i with ix := W.byt l (n) % 16, sc := W.byt l (n) / 16 }
theorem index_t : TakeOK 148 1 K.t_index := index_ok
theorem Ch.two {ga gi : Nat} {a b c : World} (h : Ch (fun x => x = ga ∨ x = gi) a b) (k : Ch (fun x => x = ga ∨ x = gi) b c) : Ch (fun x => x = ga ∨ x = gi) a c := h.trans k
theorem Ch.kept {ga gi h j : Nat} {a b : World} {v : Value} (k : Ch (fun x => x = ga ∨ x = gi) a b) (h1 : h ≠ ga) (h2 : h ≠ gi) (hc : a.cell? ⟨h, j, none⟩ = some v) : b.cell? ⟨h, j, none⟩ = some v :=
  (k.cell h j (lt_of_cell hc) (fun q => q.elim h1 h2)).trans hc
theorem takes_reg_small (ga gs gi c h cap : Nat) (s : ByteArray) (n : Nat) (i : K.Ins) (w : World) : Rd ga gs s n w → Ki gi i w → ga ≠ gi → gs ≠ gi → n + 2 ≤ s.size → s.size ≤ maxLen → w.cell? ⟨c, 0, none⟩ = some (.slice (some ⟨h, 0, none⟩) 2 cap) → w.cell? ⟨h, 0, none⟩ = some (.func (.func 138) #[] #[]) → w.cell? ⟨h, 1, none⟩ = some (.func (.func 143) #[] #[]) → h ≠ ga → h ≠ gi →
    Calls Tryz.prog 166 #[.func (.func 129) #[] #[.pointer (some ⟨ga, 0, none⟩), .pointer (some ⟨gs, 0, none⟩)], .pointer (some ⟨gi, 0, none⟩), .pointer (some ⟨c, 0, none⟩)] w fun e w' => e = .returned (.tuple #[]) ∧ Rd ga gs s (n + 2) w' ∧ Ki gi (K.t_small s.data.toList (n + 1) (K.t_reg s.data.toList (n + 0) i)) w' ∧ Ch (fun x => x = ga ∨ x = gi) w w' := by
  intro hr hk h1 h2 hn hs hc q0 q1 g1 g2
  go_enter Tryz.func166, Tryz.ntmps166
  go_wp2
  clear hc
  go_loopw [9] (fun j wr => ∃ k : Nat, j = .int .i64 k ∧ Ch (fun x => x = ga ∨ x = gi) w wr ∧ ((k = 0 ∧ Rd ga gs s (n + 0) wr ∧ Ki gi i wr) ∨ (k = 1 ∧ Rd ga gs s (n + 1) wr ∧ Ki gi (K.t_reg s.data.toList (n + 0) i) wr) ∨ (k = 2 ∧ Rd ga gs s (n + 2) wr ∧ Ki gi (K.t_small s.data.toList (n + 1) (K.t_reg s.data.toList (n + 0) i)) wr))) (fun j _ => 2 - (intOf j).toNat)
  case atStart => exact ⟨0, rfl, Ch.refl _ _, .inl ⟨rfl, hr, hk⟩⟩
  case round =>
    clear hr hk
    obtain ⟨k, rfl, hch, hrel⟩ := hrel
    rcases hrel with ⟨rfl, hr, hk⟩ | ⟨rfl, hr, hk⟩ | ⟨rfl, hr, hk⟩
    · have p := Ch.kept hch g1 g2 q0
      clear q0 q1
      go_wp2_with (go_at_call 138; refine (reg_t _ _ _ _ _ _ _ hr hk h1 h2 (by omega) hs).mono ?_; rintro e w1 ⟨rfl, hr1, hk1, hch1⟩)
      go_roundw
      case rel => exact ⟨1, by go_num, hch.two hch1, .inr (.inl ⟨rfl, hr1, hk1⟩)⟩
      case measure => simp [intOf]
    · have p := Ch.kept hch g1 g2 q1
      clear q0 q1
      go_wp2_with (go_at_call 143; refine (small_t _ _ _ _ _ _ _ hr hk h1 h2 (by omega) hs).mono ?_; rintro e w1 ⟨rfl, hr1, hk1, hch1⟩)
      go_roundw
      case rel => exact ⟨2, by go_num, hch.two hch1, .inr (.inr (⟨rfl, hr1, hk1⟩))⟩
      case measure => simp [intOf]
    · clear q0 q1
      go_wp2
      go_end0
      exact ⟨rfl, hr, hk, hch⟩
theorem takes_reg_full (ga gs gi c h cap : Nat) (s : ByteArray) (n : Nat) (i : K.Ins) (w : World) : Rd ga gs s n w → Ki gi i w → ga ≠ gi → gs ≠ gi → n + 5 ≤ s.size → s.size ≤ maxLen → w.cell? ⟨c, 0, none⟩ = some (.slice (some ⟨h, 0, none⟩) 2 cap) → w.cell? ⟨h, 0, none⟩ = some (.func (.func 138) #[] #[]) → w.cell? ⟨h, 1, none⟩ = some (.func (.func 146) #[] #[]) → h ≠ ga → h ≠ gi →
    Calls Tryz.prog 166 #[.func (.func 129) #[] #[.pointer (some ⟨ga, 0, none⟩), .pointer (some ⟨gs, 0, none⟩)], .pointer (some ⟨gi, 0, none⟩), .pointer (some ⟨c, 0, none⟩)] w fun e w' => e = .returned (.tuple #[]) ∧ Rd ga gs s (n + 5) w' ∧ Ki gi (K.t_full s.data.toList (n + 1) (K.t_reg s.data.toList (n + 0) i)) w' ∧ Ch (fun x => x = ga ∨ x = gi) w w' := by
  intro hr hk h1 h2 hn hs hc q0 q1 g1 g2
  go_enter Tryz.func166, Tryz.ntmps166
  go_wp2
  clear hc
  go_loopw [9] (fun j wr => ∃ k : Nat, j = .int .i64 k ∧ Ch (fun x => x = ga ∨ x = gi) w wr ∧ ((k = 0 ∧ Rd ga gs s (n + 0) wr ∧ Ki gi i wr) ∨ (k = 1 ∧ Rd ga gs s (n + 1) wr ∧ Ki gi (K.t_reg s.data.toList (n + 0) i) wr) ∨ (k = 2 ∧ Rd ga gs s (n + 5) wr ∧ Ki gi (K.t_full s.data.toList (n + 1) (K.t_reg s.data.toList (n + 0) i)) wr))) (fun j _ => 2 - (intOf j).toNat)
  case atStart => exact ⟨0, rfl, Ch.refl _ _, .inl ⟨rfl, hr, hk⟩⟩
  case round =>
    clear hr hk
    obtain ⟨k, rfl, hch, hrel⟩ := hrel
    rcases hrel with ⟨rfl, hr, hk⟩ | ⟨rfl, hr, hk⟩ | ⟨rfl, hr, hk⟩
    · have p := Ch.kept hch g1 g2 q0
      clear q0 q1
      go_wp2_with (go_at_call 138; refine (reg_t _ _ _ _ _ _ _ hr hk h1 h2 (by omega) hs).mono ?_; rintro e w1 ⟨rfl, hr1, hk1, hch1⟩)
      go_roundw
      case rel => exact ⟨1, by go_num, hch.two hch1, .inr (.inl ⟨rfl, hr1, hk1⟩)⟩
      case measure => simp [intOf]
    · have p := Ch.kept hch g1 g2 q1
      clear q0 q1
      go_wp2_with (go_at_call 146; refine (full_t _ _ _ _ _ _ _ hr hk h1 h2 (by omega) hs).mono ?_; rintro e w1 ⟨rfl, hr1, hk1, hch1⟩)
      go_roundw
      case rel => exact ⟨2, by go_num, hch.two hch1, .inr (.inr (⟨rfl, hr1, hk1⟩))⟩
      case measure => simp [intOf]
    · clear q0 q1
      go_wp2
      go_end0
      exact ⟨rfl, hr, hk, hch⟩
theorem takes_pair_small (ga gs gi c h cap : Nat) (s : ByteArray) (n : Nat) (i : K.Ins) (w : World) : Rd ga gs s n w → Ki gi i w → ga ≠ gi → gs ≠ gi → n + 2 ≤ s.size → s.size ≤ maxLen → w.cell? ⟨c, 0, none⟩ = some (.slice (some ⟨h, 0, none⟩) 2 cap) → w.cell? ⟨h, 0, none⟩ = some (.func (.func 140) #[] #[]) → w.cell? ⟨h, 1, none⟩ = some (.func (.func 143) #[] #[]) → h ≠ ga → h ≠ gi →
    Calls Tryz.prog 166 #[.func (.func 129) #[] #[.pointer (some ⟨ga, 0, none⟩), .pointer (some ⟨gs, 0, none⟩)], .pointer (some ⟨gi, 0, none⟩), .pointer (some ⟨c, 0, none⟩)] w fun e w' => e = .returned (.tuple #[]) ∧ Rd ga gs s (n + 2) w' ∧ Ki gi (K.t_small s.data.toList (n + 1) (K.t_pair s.data.toList (n + 0) i)) w' ∧ Ch (fun x => x = ga ∨ x = gi) w w' := by
  intro hr hk h1 h2 hn hs hc q0 q1 g1 g2
  go_enter Tryz.func166, Tryz.ntmps166
  go_wp2
  clear hc
  go_loopw [9] (fun j wr => ∃ k : Nat, j = .int .i64 k ∧ Ch (fun x => x = ga ∨ x = gi) w wr ∧ ((k = 0 ∧ Rd ga gs s (n + 0) wr ∧ Ki gi i wr) ∨ (k = 1 ∧ Rd ga gs s (n + 1) wr ∧ Ki gi (K.t_pair s.data.toList (n + 0) i) wr) ∨ (k = 2 ∧ Rd ga gs s (n + 2) wr ∧ Ki gi (K.t_small s.data.toList (n + 1) (K.t_pair s.data.toList (n + 0) i)) wr))) (fun j _ => 2 - (intOf j).toNat)
  case atStart => exact ⟨0, rfl, Ch.refl _ _, .inl ⟨rfl, hr, hk⟩⟩
  case round =>
    clear hr hk
    obtain ⟨k, rfl, hch, hrel⟩ := hrel
    rcases hrel with ⟨rfl, hr, hk⟩ | ⟨rfl, hr, hk⟩ | ⟨rfl, hr, hk⟩
    · have p := Ch.kept hch g1 g2 q0
      clear q0 q1
      go_wp2_with (go_at_call 140; refine (pair_t _ _ _ _ _ _ _ hr hk h1 h2 (by omega) hs).mono ?_; rintro e w1 ⟨rfl, hr1, hk1, hch1⟩)
      go_roundw
      case rel => exact ⟨1, by go_num, hch.two hch1, .inr (.inl ⟨rfl, hr1, hk1⟩)⟩
      case measure => simp [intOf]
    · have p := Ch.kept hch g1 g2 q1
      clear q0 q1
      go_wp2_with (go_at_call 143; refine (small_t _ _ _ _ _ _ _ hr hk h1 h2 (by omega) hs).mono ?_; rintro e w1 ⟨rfl, hr1, hk1, hch1⟩)
      go_roundw
      case rel => exact ⟨2, by go_num, hch.two hch1, .inr (.inr (⟨rfl, hr1, hk1⟩))⟩
      case measure => simp [intOf]
    · clear q0 q1
      go_wp2
      go_end0
      exact ⟨rfl, hr, hk, hch⟩
theorem takes_pair_index_full (ga gs gi c h cap : Nat) (s : ByteArray) (n : Nat) (i : K.Ins) (w : World) : Rd ga gs s n w → Ki gi i w → ga ≠ gi → gs ≠ gi → n + 6 ≤ s.size → s.size ≤ maxLen → w.cell? ⟨c, 0, none⟩ = some (.slice (some ⟨h, 0, none⟩) 3 cap) → w.cell? ⟨h, 0, none⟩ = some (.func (.func 140) #[] #[]) → w.cell? ⟨h, 1, none⟩ = some (.func (.func 148) #[] #[]) → w.cell? ⟨h, 2, none⟩ = some (.func (.func 146) #[] #[]) → h ≠ ga → h ≠ gi →
    Calls Tryz.prog 166 #[.func (.func 129) #[] #[.pointer (some ⟨ga, 0, none⟩), .pointer (some ⟨gs, 0, none⟩)], .pointer (some ⟨gi, 0, none⟩), .pointer (some ⟨c, 0, none⟩)] w fun e w' => e = .returned (.tuple #[]) ∧ Rd ga gs s (n + 6) w' ∧ Ki gi (K.t_full s.data.toList (n + 2) (K.t_index s.data.toList (n + 1) (K.t_pair s.data.toList (n + 0) i))) w' ∧ Ch (fun x => x = ga ∨ x = gi) w w' := by
  intro hr hk h1 h2 hn hs hc q0 q1 q2 g1 g2
  go_enter Tryz.func166, Tryz.ntmps166
  go_wp2
  clear hc
  go_loopw [9] (fun j wr => ∃ k : Nat, j = .int .i64 k ∧ Ch (fun x => x = ga ∨ x = gi) w wr ∧ ((k = 0 ∧ Rd ga gs s (n + 0) wr ∧ Ki gi i wr) ∨ (k = 1 ∧ Rd ga gs s (n + 1) wr ∧ Ki gi (K.t_pair s.data.toList (n + 0) i) wr) ∨ (k = 2 ∧ Rd ga gs s (n + 2) wr ∧ Ki gi (K.t_index s.data.toList (n + 1) (K.t_pair s.data.toList (n + 0) i)) wr) ∨ (k = 3 ∧ Rd ga gs s (n + 6) wr ∧ Ki gi (K.t_full s.data.toList (n + 2) (K.t_index s.data.toList (n + 1) (K.t_pair s.data.toList (n + 0) i))) wr))) (fun j _ => 3 - (intOf j).toNat)
  case atStart => exact ⟨0, rfl, Ch.refl _ _, .inl ⟨rfl, hr, hk⟩⟩
  case round =>
    clear hr hk
    obtain ⟨k, rfl, hch, hrel⟩ := hrel
    rcases hrel with ⟨rfl, hr, hk⟩ | ⟨rfl, hr, hk⟩ | ⟨rfl, hr, hk⟩ | ⟨rfl, hr, hk⟩
    · have p := Ch.kept hch g1 g2 q0
      clear q0 q1 q2
      go_wp2_with (go_at_call 140; refine (pair_t _ _ _ _ _ _ _ hr hk h1 h2 (by omega) hs).mono ?_; rintro e w1 ⟨rfl, hr1, hk1, hch1⟩)
      go_roundw
      case rel => exact ⟨1, by go_num, hch.two hch1, .inr (.inl ⟨rfl, hr1, hk1⟩)⟩
      case measure => simp [intOf]
    · have p := Ch.kept hch g1 g2 q1
      clear q0 q1 q2
      go_wp2_with (go_at_call 148; refine (index_t _ _ _ _ _ _ _ hr hk h1 h2 (by omega) hs).mono ?_; rintro e w1 ⟨rfl, hr1, hk1, hch1⟩)
      go_roundw
      case rel => exact ⟨2, by go_num, hch.two hch1, .inr (.inr (.inl ⟨rfl, hr1, hk1⟩))⟩
      case measure => simp [intOf]
    · have p := Ch.kept hch g1 g2 q2
      clear q0 q1 q2
      go_wp2_with (go_at_call 146; refine (full_t _ _ _ _ _ _ _ hr hk h1 h2 (by omega) hs).mono ?_; rintro e w1 ⟨rfl, hr1, hk1, hch1⟩)
      go_roundw
      case rel => exact ⟨3, by go_num, hch.two hch1, .inr (.inr (.inr (⟨rfl, hr1, hk1⟩)))⟩
      case measure => simp [intOf]
    · clear q0 q1 q2
      go_wp2
      go_end0
      exact ⟨rfl, hr, hk, hch⟩
/-- The fields are in the ranges that Valid has looked at ahead. -/
structure K.In (i : K.Ins) : Prop where
  d0 : 0 ≤ i.d
  d1 : i.d ≤ 7
  s0 : 0 ≤ i.s
  s1 : i.s ≤ 7
  x0 : -1 ≤ i.ix
  x1 : i.ix ≤ 7
  c0 : 0 ≤ i.sc
  c1 : i.sc ≤ 3
  i0 : 0 ≤ i.imm
  i1 : i.imm < 4294967296
theorem K.cv0 (w : World) (v : Int) : (convert 38 9 (.slice (some ⟨w.heap.size, 0, none⟩) 1 1)).run Tryz.prog (w.alloc (.cells #[.int .u8 v] 5)) = .ok (.string (strOfNums [v])) (w.alloc (.cells #[.int .u8 v] 5)) := by
  refine run_convert_bytes_arg _ _ _ Tryz.underlying38 Tryz.underlying5 _ 0 1 1 _ rfl ?_ _ Tryz.underlying9
  intro i hi
  have hi' : i < 1 := hi
  obtain rfl : i = 0 := by omega
  simp [List.getD, World.cell?_alloc_mark]
theorem K.cv1 (w : World) (o : Obj) (v : Int) : (convert 38 9 (.slice (some ⟨w.heap.size + 1, 0, none⟩) 1 1)).run Tryz.prog ((w.alloc o).alloc (.cells #[.int .u8 v] 5)) = .ok (.string (strOfNums [v])) ((w.alloc o).alloc (.cells #[.int .u8 v] 5)) := by
  have h := K.cv0 (w.alloc o) v
  rwa [show (w.alloc o).heap.size = w.heap.size + 1 by simp] at h
theorem K.or16 (a b : Int) (a0 : 0 ≤ a) (a1 : a ≤ 7) (b0 : 0 ≤ b) (b1 : b ≤ 7) : bits .or .i64 (a * 16) b = a * 16 + b := by
  have ha : a = 0 ∨ a = 1 ∨ a = 2 ∨ a = 3 ∨ a = 4 ∨ a = 5 ∨ a = 6 ∨ a = 7 := by omega
  have hb : b = 0 ∨ b = 1 ∨ b = 2 ∨ b = 3 ∨ b = 4 ∨ b = 5 ∨ b = 6 ∨ b = 7 := by omega
  rcases ha with rfl | rfl | rfl | rfl | rfl | rfl | rfl | rfl <;> rcases hb with rfl | rfl | rfl | rfl | rfl | rfl | rfl | rfl <;> decide +kernel
theorem K.put4 (n : Int) : W.put n 4 = strOfNums [n % 256, n / 256 % 256, n / 65536 % 256, n / 16777216 % 256] := rfl
/-- The function with number f writes the bytes g. -/
def PutOK (f : FuncId) (g : K.Ins → List Int) : Prop := ∀ (i : K.Ins) (w : World), K.In i → Calls Tryz.prog f #[.agg #[.int .i64 i.op, .int .i64 i.d, .int .i64 i.s, .int .i64 i.ix, .int .i64 i.sc, .int .u32 i.imm, .int .i64 i.sz]] w fun e w' => e = .returned (.string (strOfNums (g i))) ∧ Bel w w'
theorem putNone_ok : PutOK 137 (fun _ => []) := by
  intro i w hi
  go_enter Tryz.func137, Tryz.ntmps137
  go_wp2
  go_ret
  exact ⟨rfl, Nz.bel⟩
theorem putReg_ok : PutOK 139 (fun i => [i.d]) := by
  intro i w hi
  obtain ⟨d0, d1, -, -, -, -, -, -, -, -⟩ := hi
  have hcv := K.cv1 w (.cells #[.int .i64 i.op, .int .i64 i.d, .int .i64 i.s, .int .i64 i.ix, .int .i64 i.sc, .int .u32 i.imm, .int .i64 i.sz] 66) i.d
  go_enter Tryz.func139, Tryz.ntmps139
  go_wp2
  go_ret
  exact ⟨rfl, Nz.bel⟩
theorem putByte_ok : PutOK 145 (fun i => [i.imm % 256]) := by
  intro i w hi
  obtain ⟨-, -, -, -, -, -, -, -, i0, i1⟩ := hi
  have hcv := K.cv1 w (.cells #[.int .i64 i.op, .int .i64 i.d, .int .i64 i.s, .int .i64 i.ix, .int .i64 i.sc, .int .u32 i.imm, .int .i64 i.sz] 66) (i.imm % 256)
  go_enter Tryz.func145, Tryz.ntmps145
  go_wp2
  go_ret
  exact ⟨rfl, Nz.bel⟩
theorem putPair_ok : PutOK 141 (fun i => [i.d * 16 + i.s]) := by
  intro i w hi
  obtain ⟨d0, d1, s0, s1, -, -, -, -, -, -⟩ := hi
  have hcv := K.cv1 w (.cells #[.int .i64 i.op, .int .i64 i.d, .int .i64 i.s, .int .i64 i.ix, .int .i64 i.sc, .int .u32 i.imm, .int .i64 i.sz] 66) (i.d * 16 + i.s)
  have ho : bits .or .i64 (i.d * 16) i.s = i.d * 16 + i.s := K.or16 _ _ d0 d1 s0 s1
  go_enter Tryz.func141, Tryz.ntmps141
  go_wp2
  go_ret
  exact ⟨rfl, Nz.bel⟩
theorem putFull_ok : PutOK 147 (fun i => [i.imm % 256, i.imm / 256 % 256, i.imm / 65536 % 256, i.imm / 16777216 % 256]) := by
  intro i w hi
  obtain ⟨-, -, -, -, -, -, -, -, i0, i1⟩ := hi
  go_enter Tryz.func147, Tryz.ntmps147
  go_wp2_with (go_at_call 170; refine (Put_any _ _ (by omega) (by omega) (by omega) (by omega) _).mono ?_; rintro e w' ⟨rfl, hb⟩)
  go_ret
  exact ⟨congrArg (fun s => Ending.returned (.string s)) (K.put4 i.imm), Nz.bel⟩
set_option maxRecDepth 4000 in
theorem putIndex_ok : PutOK 149 (fun i => [if i.ix < 0 then 8 else i.sc * 16 + i.ix]) := by
  intro i w hi
  obtain ⟨-, -, -, -, x0, x1, c0, c1, -, -⟩ := hi
  by_cases hx : i.ix < 0
  · go_enter Tryz.func149, Tryz.ntmps149
    go_wp2
    go_ret
    exact ⟨by simp [hx]; rfl, Nz.bel⟩
  · have hcv := K.cv1 w (.cells #[.int .i64 i.op, .int .i64 i.d, .int .i64 i.s, .int .i64 i.ix, .int .i64 i.sc, .int .u32 i.imm, .int .i64 i.sz] 66) (i.sc * 16 + i.ix)
    have ho : bits .or .i64 (i.sc * 16) i.ix = i.sc * 16 + i.ix := K.or16 _ _ c0 (by omega) (by omega) x1
    go_enter Tryz.func149, Tryz.ntmps149
    go_wp2
    go_ret
    exact ⟨by simp [hx], Nz.bel⟩
theorem K.app (a b : List Int) : strOfNums a ++ strOfNums b = strOfNums (a ++ b) := by
  apply ByteArray.ext; simp [strOfNums]
theorem K.nil : (⟨#[]⟩ : ByteArray) = strOfNums [] := rfl
def K.p_Reg (i : K.Ins) : List Int := [i.d]
theorem putReg_t : PutOK 139 K.p_Reg := putReg_ok
def K.p_Byte (i : K.Ins) : List Int := [i.imm % 256]
theorem putByte_t : PutOK 145 K.p_Byte := putByte_ok
def K.p_Pair (i : K.Ins) : List Int := [i.d * 16 + i.s]
theorem putPair_t : PutOK 141 K.p_Pair := putPair_ok
def K.p_Full (i : K.Ins) : List Int := [i.imm % 256, i.imm / 256 % 256, i.imm / 65536 % 256, i.imm / 16777216 % 256]
theorem putFull_t : PutOK 147 K.p_Full := putFull_ok
def K.p_Index (i : K.Ins) : List Int := [if i.ix < 0 then 8 else i.sc * 16 + i.ix]
theorem putIndex_t : PutOK 149 K.p_Index := putIndex_ok
theorem puts_Reg_Byte (c h cap : Nat) (i : K.Ins) (w : World) : K.In i → w.cell? ⟨c, 0, none⟩ = some (.slice (some ⟨h, 0, none⟩) 2 cap) → w.cell? ⟨h, 0, none⟩ = some (.func (.func 139) #[] #[]) → w.cell? ⟨h, 1, none⟩ = some (.func (.func 145) #[] #[]) →
    Calls Tryz.prog 168 #[.agg #[.int .i64 i.op, .int .i64 i.d, .int .i64 i.s, .int .i64 i.ix, .int .i64 i.sc, .int .u32 i.imm, .int .i64 i.sz], .pointer (some ⟨c, 0, none⟩)] w fun e w' => e = .returned (.string (strOfNums (([] ++ K.p_Reg i) ++ K.p_Byte i))) ∧ Bel w w' := by
  intro hi hc q0 q1
  have hw1 : Bel w (w.alloc (.cells #[.int .i64 i.op, .int .i64 i.d, .int .i64 i.s, .int .i64 i.ix, .int .i64 i.sc, .int .u32 i.imm, .int .i64 i.sz] 66)) := Bel.alloc (Bel.refl _) _
  have hc1 := Bel.at hw1 hc
  go_enter Tryz.func168, Tryz.ntmps168
  go_wp2
  go_loopw [4, 9] (fun r j wr => ∃ k : Nat, j = .int .i64 k ∧ Bel (w.alloc (.cells #[.int .i64 i.op, .int .i64 i.d, .int .i64 i.s, .int .i64 i.ix, .int .i64 i.sc, .int .u32 i.imm, .int .i64 i.sz] 66)) wr ∧ ((k = 0 ∧ r = .string (strOfNums [])) ∨ (k = 1 ∧ r = .string (strOfNums ([] ++ K.p_Reg i))) ∨ (k = 2 ∧ r = .string (strOfNums (([] ++ K.p_Reg i) ++ K.p_Byte i))))) (fun _ j _ => 2 - (intOf j).toNat)
  case atStart => exact ⟨0, rfl, Bel.refl _, .inl ⟨rfl, by rw [K.nil]⟩⟩
  case round =>
    obtain ⟨k, rfl, hch, hrel⟩ := hrel
    have z0 := Bel.at hch (ad := ⟨w.heap.size, 0, none⟩) (v := .int .i64 i.op) (by go_simp)
    have z1 := Bel.at hch (ad := ⟨w.heap.size, 1, none⟩) (v := .int .i64 i.d) (by go_simp)
    have z2 := Bel.at hch (ad := ⟨w.heap.size, 2, none⟩) (v := .int .i64 i.s) (by go_simp)
    have z3 := Bel.at hch (ad := ⟨w.heap.size, 3, none⟩) (v := .int .i64 i.ix) (by go_simp)
    have z4 := Bel.at hch (ad := ⟨w.heap.size, 4, none⟩) (v := .int .i64 i.sc) (by go_simp)
    have z5 := Bel.at hch (ad := ⟨w.heap.size, 5, none⟩) (v := .int .u32 i.imm) (by go_simp)
    have z6 := Bel.at hch (ad := ⟨w.heap.size, 6, none⟩) (v := .int .i64 i.sz) (by go_simp)
    rcases hrel with ⟨rfl, rfl⟩ | ⟨rfl, rfl⟩ | ⟨rfl, rfl⟩
    · have p := Bel.at hch (Bel.at hw1 q0)
      clear hc hc1 q0 q1
      go_wp2_with (go_at_call 139; refine (putReg_t i _ hi).mono ?_; rintro e w1 ⟨rfl, hb1⟩)
      go_roundw
      case rel => exact ⟨1, by go_num, hch.trans hb1, .inr (.inl ⟨rfl, (by first | (rw [K.app]; done) | (rw [K.app]; rfl) | rfl | simp)⟩)⟩
      case measure => simp [intOf]
    · have p := Bel.at hch (Bel.at hw1 q1)
      clear hc hc1 q0 q1
      go_wp2_with (go_at_call 145; refine (putByte_t i _ hi).mono ?_; rintro e w1 ⟨rfl, hb1⟩)
      go_roundw
      case rel => exact ⟨2, by go_num, hch.trans hb1, .inr (.inr (⟨rfl, (by first | (rw [K.app]; done) | (rw [K.app]; rfl) | rfl | simp)⟩))⟩
      case measure => simp [intOf]
    · clear hc hc1 q0 q1
      go_wp2
      go_ret
      exact ⟨rfl, hw1.trans hch⟩
theorem puts_Reg_Full (c h cap : Nat) (i : K.Ins) (w : World) : K.In i → w.cell? ⟨c, 0, none⟩ = some (.slice (some ⟨h, 0, none⟩) 2 cap) → w.cell? ⟨h, 0, none⟩ = some (.func (.func 139) #[] #[]) → w.cell? ⟨h, 1, none⟩ = some (.func (.func 147) #[] #[]) →
    Calls Tryz.prog 168 #[.agg #[.int .i64 i.op, .int .i64 i.d, .int .i64 i.s, .int .i64 i.ix, .int .i64 i.sc, .int .u32 i.imm, .int .i64 i.sz], .pointer (some ⟨c, 0, none⟩)] w fun e w' => e = .returned (.string (strOfNums (([] ++ K.p_Reg i) ++ K.p_Full i))) ∧ Bel w w' := by
  intro hi hc q0 q1
  have hw1 : Bel w (w.alloc (.cells #[.int .i64 i.op, .int .i64 i.d, .int .i64 i.s, .int .i64 i.ix, .int .i64 i.sc, .int .u32 i.imm, .int .i64 i.sz] 66)) := Bel.alloc (Bel.refl _) _
  have hc1 := Bel.at hw1 hc
  go_enter Tryz.func168, Tryz.ntmps168
  go_wp2
  go_loopw [4, 9] (fun r j wr => ∃ k : Nat, j = .int .i64 k ∧ Bel (w.alloc (.cells #[.int .i64 i.op, .int .i64 i.d, .int .i64 i.s, .int .i64 i.ix, .int .i64 i.sc, .int .u32 i.imm, .int .i64 i.sz] 66)) wr ∧ ((k = 0 ∧ r = .string (strOfNums [])) ∨ (k = 1 ∧ r = .string (strOfNums ([] ++ K.p_Reg i))) ∨ (k = 2 ∧ r = .string (strOfNums (([] ++ K.p_Reg i) ++ K.p_Full i))))) (fun _ j _ => 2 - (intOf j).toNat)
  case atStart => exact ⟨0, rfl, Bel.refl _, .inl ⟨rfl, by rw [K.nil]⟩⟩
  case round =>
    obtain ⟨k, rfl, hch, hrel⟩ := hrel
    have z0 := Bel.at hch (ad := ⟨w.heap.size, 0, none⟩) (v := .int .i64 i.op) (by go_simp)
    have z1 := Bel.at hch (ad := ⟨w.heap.size, 1, none⟩) (v := .int .i64 i.d) (by go_simp)
    have z2 := Bel.at hch (ad := ⟨w.heap.size, 2, none⟩) (v := .int .i64 i.s) (by go_simp)
    have z3 := Bel.at hch (ad := ⟨w.heap.size, 3, none⟩) (v := .int .i64 i.ix) (by go_simp)
    have z4 := Bel.at hch (ad := ⟨w.heap.size, 4, none⟩) (v := .int .i64 i.sc) (by go_simp)
    have z5 := Bel.at hch (ad := ⟨w.heap.size, 5, none⟩) (v := .int .u32 i.imm) (by go_simp)
    have z6 := Bel.at hch (ad := ⟨w.heap.size, 6, none⟩) (v := .int .i64 i.sz) (by go_simp)
    rcases hrel with ⟨rfl, rfl⟩ | ⟨rfl, rfl⟩ | ⟨rfl, rfl⟩
    · have p := Bel.at hch (Bel.at hw1 q0)
      clear hc hc1 q0 q1
      go_wp2_with (go_at_call 139; refine (putReg_t i _ hi).mono ?_; rintro e w1 ⟨rfl, hb1⟩)
      go_roundw
      case rel => exact ⟨1, by go_num, hch.trans hb1, .inr (.inl ⟨rfl, (by first | (rw [K.app]; done) | (rw [K.app]; rfl) | rfl | simp)⟩)⟩
      case measure => simp [intOf]
    · have p := Bel.at hch (Bel.at hw1 q1)
      clear hc hc1 q0 q1
      go_wp2_with (go_at_call 147; refine (putFull_t i _ hi).mono ?_; rintro e w1 ⟨rfl, hb1⟩)
      go_roundw
      case rel => exact ⟨2, by go_num, hch.trans hb1, .inr (.inr (⟨rfl, (by first | (rw [K.app]; done) | (rw [K.app]; rfl) | rfl | simp)⟩))⟩
      case measure => simp [intOf]
    · clear hc hc1 q0 q1
      go_wp2
      go_ret
      exact ⟨rfl, hw1.trans hch⟩
theorem puts_Pair_Byte (c h cap : Nat) (i : K.Ins) (w : World) : K.In i → w.cell? ⟨c, 0, none⟩ = some (.slice (some ⟨h, 0, none⟩) 2 cap) → w.cell? ⟨h, 0, none⟩ = some (.func (.func 141) #[] #[]) → w.cell? ⟨h, 1, none⟩ = some (.func (.func 145) #[] #[]) →
    Calls Tryz.prog 168 #[.agg #[.int .i64 i.op, .int .i64 i.d, .int .i64 i.s, .int .i64 i.ix, .int .i64 i.sc, .int .u32 i.imm, .int .i64 i.sz], .pointer (some ⟨c, 0, none⟩)] w fun e w' => e = .returned (.string (strOfNums (([] ++ K.p_Pair i) ++ K.p_Byte i))) ∧ Bel w w' := by
  intro hi hc q0 q1
  have hw1 : Bel w (w.alloc (.cells #[.int .i64 i.op, .int .i64 i.d, .int .i64 i.s, .int .i64 i.ix, .int .i64 i.sc, .int .u32 i.imm, .int .i64 i.sz] 66)) := Bel.alloc (Bel.refl _) _
  have hc1 := Bel.at hw1 hc
  go_enter Tryz.func168, Tryz.ntmps168
  go_wp2
  go_loopw [4, 9] (fun r j wr => ∃ k : Nat, j = .int .i64 k ∧ Bel (w.alloc (.cells #[.int .i64 i.op, .int .i64 i.d, .int .i64 i.s, .int .i64 i.ix, .int .i64 i.sc, .int .u32 i.imm, .int .i64 i.sz] 66)) wr ∧ ((k = 0 ∧ r = .string (strOfNums [])) ∨ (k = 1 ∧ r = .string (strOfNums ([] ++ K.p_Pair i))) ∨ (k = 2 ∧ r = .string (strOfNums (([] ++ K.p_Pair i) ++ K.p_Byte i))))) (fun _ j _ => 2 - (intOf j).toNat)
  case atStart => exact ⟨0, rfl, Bel.refl _, .inl ⟨rfl, by rw [K.nil]⟩⟩
  case round =>
    obtain ⟨k, rfl, hch, hrel⟩ := hrel
    have z0 := Bel.at hch (ad := ⟨w.heap.size, 0, none⟩) (v := .int .i64 i.op) (by go_simp)
    have z1 := Bel.at hch (ad := ⟨w.heap.size, 1, none⟩) (v := .int .i64 i.d) (by go_simp)
    have z2 := Bel.at hch (ad := ⟨w.heap.size, 2, none⟩) (v := .int .i64 i.s) (by go_simp)
    have z3 := Bel.at hch (ad := ⟨w.heap.size, 3, none⟩) (v := .int .i64 i.ix) (by go_simp)
    have z4 := Bel.at hch (ad := ⟨w.heap.size, 4, none⟩) (v := .int .i64 i.sc) (by go_simp)
    have z5 := Bel.at hch (ad := ⟨w.heap.size, 5, none⟩) (v := .int .u32 i.imm) (by go_simp)
    have z6 := Bel.at hch (ad := ⟨w.heap.size, 6, none⟩) (v := .int .i64 i.sz) (by go_simp)
    rcases hrel with ⟨rfl, rfl⟩ | ⟨rfl, rfl⟩ | ⟨rfl, rfl⟩
    · have p := Bel.at hch (Bel.at hw1 q0)
      clear hc hc1 q0 q1
      go_wp2_with (go_at_call 141; refine (putPair_t i _ hi).mono ?_; rintro e w1 ⟨rfl, hb1⟩)
      go_roundw
      case rel => exact ⟨1, by go_num, hch.trans hb1, .inr (.inl ⟨rfl, (by first | (rw [K.app]; done) | (rw [K.app]; rfl) | rfl | simp)⟩)⟩
      case measure => simp [intOf]
    · have p := Bel.at hch (Bel.at hw1 q1)
      clear hc hc1 q0 q1
      go_wp2_with (go_at_call 145; refine (putByte_t i _ hi).mono ?_; rintro e w1 ⟨rfl, hb1⟩)
      go_roundw
      case rel => exact ⟨2, by go_num, hch.trans hb1, .inr (.inr (⟨rfl, (by first | (rw [K.app]; done) | (rw [K.app]; rfl) | rfl | simp)⟩))⟩
      case measure => simp [intOf]
    · clear hc hc1 q0 q1
      go_wp2
      go_ret
      exact ⟨rfl, hw1.trans hch⟩
theorem puts_Pair_Index_Full (c h cap : Nat) (i : K.Ins) (w : World) : K.In i → w.cell? ⟨c, 0, none⟩ = some (.slice (some ⟨h, 0, none⟩) 3 cap) → w.cell? ⟨h, 0, none⟩ = some (.func (.func 141) #[] #[]) → w.cell? ⟨h, 1, none⟩ = some (.func (.func 149) #[] #[]) → w.cell? ⟨h, 2, none⟩ = some (.func (.func 147) #[] #[]) →
    Calls Tryz.prog 168 #[.agg #[.int .i64 i.op, .int .i64 i.d, .int .i64 i.s, .int .i64 i.ix, .int .i64 i.sc, .int .u32 i.imm, .int .i64 i.sz], .pointer (some ⟨c, 0, none⟩)] w fun e w' => e = .returned (.string (strOfNums ((([] ++ K.p_Pair i) ++ K.p_Index i) ++ K.p_Full i))) ∧ Bel w w' := by
  intro hi hc q0 q1 q2
  have hw1 : Bel w (w.alloc (.cells #[.int .i64 i.op, .int .i64 i.d, .int .i64 i.s, .int .i64 i.ix, .int .i64 i.sc, .int .u32 i.imm, .int .i64 i.sz] 66)) := Bel.alloc (Bel.refl _) _
  have hc1 := Bel.at hw1 hc
  go_enter Tryz.func168, Tryz.ntmps168
  go_wp2
  go_loopw [4, 9] (fun r j wr => ∃ k : Nat, j = .int .i64 k ∧ Bel (w.alloc (.cells #[.int .i64 i.op, .int .i64 i.d, .int .i64 i.s, .int .i64 i.ix, .int .i64 i.sc, .int .u32 i.imm, .int .i64 i.sz] 66)) wr ∧ ((k = 0 ∧ r = .string (strOfNums [])) ∨ (k = 1 ∧ r = .string (strOfNums ([] ++ K.p_Pair i))) ∨ (k = 2 ∧ r = .string (strOfNums (([] ++ K.p_Pair i) ++ K.p_Index i))) ∨ (k = 3 ∧ r = .string (strOfNums ((([] ++ K.p_Pair i) ++ K.p_Index i) ++ K.p_Full i))))) (fun _ j _ => 3 - (intOf j).toNat)
  case atStart => exact ⟨0, rfl, Bel.refl _, .inl ⟨rfl, by rw [K.nil]⟩⟩
  case round =>
    obtain ⟨k, rfl, hch, hrel⟩ := hrel
    have z0 := Bel.at hch (ad := ⟨w.heap.size, 0, none⟩) (v := .int .i64 i.op) (by go_simp)
    have z1 := Bel.at hch (ad := ⟨w.heap.size, 1, none⟩) (v := .int .i64 i.d) (by go_simp)
    have z2 := Bel.at hch (ad := ⟨w.heap.size, 2, none⟩) (v := .int .i64 i.s) (by go_simp)
    have z3 := Bel.at hch (ad := ⟨w.heap.size, 3, none⟩) (v := .int .i64 i.ix) (by go_simp)
    have z4 := Bel.at hch (ad := ⟨w.heap.size, 4, none⟩) (v := .int .i64 i.sc) (by go_simp)
    have z5 := Bel.at hch (ad := ⟨w.heap.size, 5, none⟩) (v := .int .u32 i.imm) (by go_simp)
    have z6 := Bel.at hch (ad := ⟨w.heap.size, 6, none⟩) (v := .int .i64 i.sz) (by go_simp)
    rcases hrel with ⟨rfl, rfl⟩ | ⟨rfl, rfl⟩ | ⟨rfl, rfl⟩ | ⟨rfl, rfl⟩
    · have p := Bel.at hch (Bel.at hw1 q0)
      clear hc hc1 q0 q1 q2
      go_wp2_with (go_at_call 141; refine (putPair_t i _ hi).mono ?_; rintro e w1 ⟨rfl, hb1⟩)
      go_roundw
      case rel => exact ⟨1, by go_num, hch.trans hb1, .inr (.inl ⟨rfl, (by first | (rw [K.app]; done) | (rw [K.app]; rfl) | rfl | simp)⟩)⟩
      case measure => simp [intOf]
    · have p := Bel.at hch (Bel.at hw1 q1)
      clear hc hc1 q0 q1 q2
      go_wp2_with (go_at_call 149; refine (putIndex_t i _ hi).mono ?_; rintro e w1 ⟨rfl, hb1⟩)
      go_roundw
      case rel => exact ⟨2, by go_num, hch.trans hb1, .inr (.inr (.inl ⟨rfl, (by first | (rw [K.app]; done) | (rw [K.app]; rfl) | rfl | simp)⟩))⟩
      case measure => simp [intOf]
    · have p := Bel.at hch (Bel.at hw1 q2)
      clear hc hc1 q0 q1 q2
      go_wp2_with (go_at_call 147; refine (putFull_t i _ hi).mono ?_; rintro e w1 ⟨rfl, hb1⟩)
      go_roundw
      case rel => exact ⟨3, by go_num, hch.trans hb1, .inr (.inr (.inr (⟨rfl, (by first | (rw [K.app]; done) | (rw [K.app]; rfl) | rfl | simp)⟩)))⟩
      case measure => simp [intOf]
    · clear hc hc1 q0 q1 q2
      go_wp2
      go_ret
      exact ⟨rfl, hw1.trans hch⟩
/-- v is the closure F over a cell that holds a slice of the functions fs. -/
def K.Cl (F : FuncId) (fs : List FuncId) (v : Value) (w : World) : Prop := ∃ c h cap, v = .func (.func F) #[] #[.pointer (some ⟨c, 0, none⟩)] ∧ w.cell? ⟨c, 0, none⟩ = some (.slice (some ⟨h, 0, none⟩) fs.length cap) ∧ ∀ j, j < fs.length → w.cell? ⟨h, j, none⟩ = some (.func (.func (fs.getD j 0)) #[] #[])
theorem K.Cl.bel {F : FuncId} {fs : List FuncId} {v : Value} {w w' : World} (h : K.Cl F fs v w) (k : Bel w w') : K.Cl F fs v w' := by
  obtain ⟨c, b, cap, e, h1, h2⟩ := h
  exact ⟨c, b, cap, e, Bel.at k h1, fun j hj => Bel.at k (h2 j hj)⟩
theorem takes2_any (f1 f2 : FuncId) (w : World) (T : TypeId) :
    Calls Tryz.prog 142 #[.slice (some ⟨w.heap.size, 0, none⟩) 2 2] (w.alloc (.cells #[.func (.func f1) #[] #[], .func (.func f2) #[] #[]] T)) fun e w' => ∃ v, e = .returned v ∧ K.Cl 166 [f1, f2] v w' ∧ Bel w w' := by
  go_enter Tryz.func142, Tryz.ntmps142
  go_wp2
  go_ret
  refine ⟨_, rfl, ⟨w.heap.size + 1, w.heap.size, 2, rfl, by go_simp, ?_⟩, Nz.bel⟩
  intro j hj
  rcases (show j = 0 ∨ j = 1 by simp at hj; omega) with rfl | rfl <;> go_simp
theorem takes3_any (f1 f2 f3 : FuncId) (w : World) (T : TypeId) :
    Calls Tryz.prog 142 #[.slice (some ⟨w.heap.size, 0, none⟩) 3 3] (w.alloc (.cells #[.func (.func f1) #[] #[], .func (.func f2) #[] #[], .func (.func f3) #[] #[]] T)) fun e w' => ∃ v, e = .returned v ∧ K.Cl 166 [f1, f2, f3] v w' ∧ Bel w w' := by
  go_enter Tryz.func142, Tryz.ntmps142
  go_wp2
  go_ret
  refine ⟨_, rfl, ⟨w.heap.size + 1, w.heap.size, 3, rfl, by go_simp, ?_⟩, Nz.bel⟩
  intro j hj
  rcases (show j = 0 ∨ j = 1 ∨ j = 2 by simp at hj; omega) with rfl | rfl | rfl <;> go_simp
theorem puts2_any (f1 f2 : FuncId) (w : World) (T : TypeId) :
    Calls Tryz.prog 144 #[.slice (some ⟨w.heap.size, 0, none⟩) 2 2] (w.alloc (.cells #[.func (.func f1) #[] #[], .func (.func f2) #[] #[]] T)) fun e w' => ∃ v, e = .returned v ∧ K.Cl 168 [f1, f2] v w' ∧ Bel w w' := by
  go_enter Tryz.func144, Tryz.ntmps144
  go_wp2
  go_ret
  refine ⟨_, rfl, ⟨w.heap.size + 1, w.heap.size, 2, rfl, by go_simp, ?_⟩, Nz.bel⟩
  intro j hj
  rcases (show j = 0 ∨ j = 1 by simp at hj; omega) with rfl | rfl <;> go_simp
theorem puts3_any (f1 f2 f3 : FuncId) (w : World) (T : TypeId) :
    Calls Tryz.prog 144 #[.slice (some ⟨w.heap.size, 0, none⟩) 3 3] (w.alloc (.cells #[.func (.func f1) #[] #[], .func (.func f2) #[] #[], .func (.func f3) #[] #[]] T)) fun e w' => ∃ v, e = .returned v ∧ K.Cl 168 [f1, f2, f3] v w' ∧ Bel w w' := by
  go_enter Tryz.func144, Tryz.ntmps144
  go_wp2
  go_ret
  refine ⟨_, rfl, ⟨w.heap.size + 1, w.heap.size, 3, rfl, by go_simp, ?_⟩, Nz.bel⟩
  intro j hj
  rcases (show j = 0 ∨ j = 1 ∨ j = 2 by simp at hj; omega) with rfl | rfl | rfl <;> go_simp
def K.lo (k : Nat) : Int := [0, 16, 32, 48, 64, 80, 88, 96, 112, 128, 129].getD k 0
def K.hi (k : Nat) : Int := [4, 21, 46, 62, 78, 86, 94, 109, 113, 128, 130].getD k 0
def K.len (k : Nat) : Int := [1, 2, 2, 3, 6, 3, 7, 2, 5, 2, 2].getD k 0
/-- t and p are the reader and the writer of format k. -/
def K.Fm (k : Nat) (t p : Value) (w : World) : Prop := match k with
  | 0 => t = .func (.func 136) #[] #[] ∧ p = .func (.func 137) #[] #[]
  | 1 => t = .func (.func 138) #[] #[] ∧ p = .func (.func 139) #[] #[]
  | 2 => t = .func (.func 140) #[] #[] ∧ p = .func (.func 141) #[] #[]
  | 3 => K.Cl 166 [138, 143] t w ∧ K.Cl 168 [139, 145] p w
  | 4 => K.Cl 166 [138, 146] t w ∧ K.Cl 168 [139, 147] p w
  | 5 => K.Cl 166 [140, 143] t w ∧ K.Cl 168 [141, 145] p w
  | 6 => K.Cl 166 [140, 148, 146] t w ∧ K.Cl 168 [141, 149, 147] p w
  | 7 => t = .func (.func 143) #[] #[] ∧ p = .func (.func 145) #[] #[]
  | 8 => t = .func (.func 146) #[] #[] ∧ p = .func (.func 147) #[] #[]
  | 9 => t = .func (.func 150) #[] #[] ∧ p = .func (.func 145) #[] #[]
  | 10 => t = .func (.func 140) #[] #[] ∧ p = .func (.func 141) #[] #[]
  | _ => False
theorem K.Fm.bel {k : Nat} {t p : Value} {w w' : World} (h : K.Fm k t p w) (b : Bel w w') : K.Fm k t p w' := by
  unfold K.Fm at *
  split at h <;> first | exact h | exact ⟨h.1.bel b, h.2.bel b⟩
/-- The eleven formats lie at block g. -/
def K.Fms (g : Nat) (ts ps : Nat → Value) (w : World) : Prop := ∀ k, k < 11 → w.cell? ⟨g, k * 5, none⟩ = some (.int .i64 (K.lo k)) ∧ w.cell? ⟨g, k * 5 + 1, none⟩ = some (.int .i64 (K.hi k)) ∧ w.cell? ⟨g, k * 5 + 2, none⟩ = some (.int .i64 (K.len k)) ∧ w.cell? ⟨g, k * 5 + 3, none⟩ = some (ts k) ∧ w.cell? ⟨g, k * 5 + 4, none⟩ = some (ps k) ∧ K.Fm k (ts k) (ps k) w
def K.fmtF (op : Int) : Nat → Nat → Option Nat
  | 0, _ => none
  | m + 1, k => if K.lo k ≤ op ∧ op ≤ K.hi k then some k else K.fmtF op m (k + 1)
/-- The format of a first byte. -/
def K.fmt (op : Int) : Option Nat := K.fmtF op 11 0
/-- What kcode.formats returns. -/
def K.FmtsOK : Prop := ∀ w : World, Calls Tryz.prog 127 #[] w fun e w' => ∃ g ts ps, e = .returned (.slice (some ⟨g, 0, none⟩) 11 11) ∧ K.Fms g ts ps w' ∧ Bel w w'
theorem K.in_one (n a b : Int) : K.inAny n [(a, b)] = (decide (a ≤ n) && decide (n ≤ b)) := by simp [K.inAny]
theorem K.Fm.isf {k : Nat} {t p : Value} {w : World} (h : K.Fm k t p w) : (∃ F cs, t = .func (.func F) #[] cs) ∧ (∃ F cs, p = .func (.func F) #[] cs) := by
  unfold K.Fm K.Cl at h
  split at h <;> first | (obtain ⟨⟨_, _, _, h1, _, _⟩, ⟨_, _, _, h2, _, _⟩⟩ := h; exact ⟨⟨_, _, h1⟩, ⟨_, _, h2⟩⟩) | exact ⟨⟨_, _, h.1⟩, ⟨_, _, h.2⟩⟩ | exact h.elim
theorem Ch.put {g : Nat} {a b : World} (h : Ch (fun x => x = g) a b) (j : Nat) (v : Value) : Ch (fun x => x = g) a (b.setCell ⟨g, j, none⟩ v) := h.setCell (p := ⟨g, j, none⟩) (fun _ => rfl) v
theorem K.Cl.ch {S : Nat → Prop} {F : FuncId} {fs : List FuncId} {v : Value} {w w' : World} (h : K.Cl F fs v w) (k : Ch S w w') (hs : ∀ x, S x → ∃ n, w.cell? ⟨x, 0, none⟩ = some (.int .i64 n)) (hl : 0 < fs.length) : K.Cl F fs v w' := by
  obtain ⟨c, b, cap, e, h1, h2⟩ := h
  refine ⟨c, b, cap, e, (k.cell c 0 (lt_of_cell h1) fun q => ?_).trans h1, fun j hj => (k.cell b j (lt_of_cell (h2 j hj)) fun q => ?_).trans (h2 j hj)⟩
  · obtain ⟨n, hn⟩ := hs _ q; rw [h1] at hn; cases hn
  · obtain ⟨n, hn⟩ := hs _ q; rw [h2 0 hl] at hn; cases hn
theorem K.Fm.ch {S : Nat → Prop} {k : Nat} {t p : Value} {w w' : World} (h : K.Fm k t p w) (b : Ch S w w') (hs : ∀ x, S x → ∃ n, w.cell? ⟨x, 0, none⟩ = some (.int .i64 n)) : K.Fm k t p w' := by
  unfold K.Fm at *
  split at h <;> first | exact h | exact ⟨h.1.ch b hs (by simp), h.2.ch b hs (by simp)⟩
set_option maxHeartbeats 2000000 in
theorem find_of (HF : K.FmtsOK) (op : Int) (w : World) :
    Calls Tryz.prog 106 #[.int .i64 op] w fun e w' => (∃ k t p, k < 11 ∧ K.fmt op = some k ∧ e = .returned (.tuple #[.agg #[.int .i64 (K.lo k), .int .i64 (K.hi k), .int .i64 (K.len k), t, p], .bool true]) ∧ K.Fm k t p w' ∧ Bel w w') ∨
      (K.fmt op = none ∧ e = .returned (.tuple #[.agg #[.int .i64 0, .int .i64 0, .int .i64 0, .nilFunc, .nilFunc], .bool false]) ∧ Bel w w') := by
  have HI := hid (show K.fmt op = K.fmtF op 11 0 from rfl)
  go_enter Tryz.func106, Tryz.ntmps106
  go_wp2_with (go_at_call 127; refine (HF _).mono ?_; rintro e w1 ⟨g, ts, ps, rfl, hf, hb⟩)
  have hb0 : Bel w w1 := Bel.trans (Bel.alloc (Bel.refl _) _) hb
  go_loopw [8] (fun i wr => ∃ j : Nat, j ≤ 11 ∧ i = .int .i64 j ∧ Hid (K.fmt op = K.fmtF op (11 - j) j) ∧ Bel w1 wr) (fun i _ => 11 - (intOf i).toNat)
  case atStart => exact ⟨0, by omega, rfl, HI, Bel.refl _⟩
  case round =>
    clear HI
    obtain ⟨j, hj, rfl, HI, hbr⟩ := hrel
    have hbb := hb.trans hbr
    have z0 := Bel.at hbb (ad := ⟨w.heap.size, 0, none⟩) (v := .int .i64 0) (by go_simp)
    have z1 := Bel.at hbb (ad := ⟨w.heap.size, 1, none⟩) (v := .int .i64 0) (by go_simp)
    have z2 := Bel.at hbb (ad := ⟨w.heap.size, 2, none⟩) (v := .int .i64 0) (by go_simp)
    have z3 := Bel.at hbb (ad := ⟨w.heap.size, 3, none⟩) (v := .nilFunc) (by go_simp)
    have z4 := Bel.at hbb (ad := ⟨w.heap.size, 4, none⟩) (v := .nilFunc) (by go_simp)
    have zf : ∀ j, wr.frozen? ⟨w.heap.size, j, none⟩ = false := fun j => by rw [hbb.frozen _ _ (by simp)]; go_simp
    have hlt : w.heap.size < wr.heap.size := by have := hbb.size; simp at this; omega
    by_cases c1 : j < 11
    · obtain ⟨a0, a1, a2, a3, a4, a5⟩ := hf j c1
      have e0 := Bel.at hbr a0
      have e1 := Bel.at hbr a1
      have e2 := Bel.at hbr a2
      have e3 := Bel.at hbr a3
      have e4 := Bel.at hbr a4
      have HS : Hid (K.fmtF op (11 - j) j = if K.lo j ≤ op ∧ op ≤ K.hi j then some j else K.fmtF op (11 - (j + 1)) (j + 1)) := hid (by rw [show 11 - j = 11 - (j + 1) + 1 by omega]; rfl)
      obtain ⟨⟨F1, cs1, ht⟩, ⟨F2, cs2, hp⟩⟩ := a5.isf
      rw [ht] at e3; rw [hp] at e4; rw [ht, hp] at a5
      have HFm := hid (a5.bel hbr)
      clear ht hp a0 a1 a2 a3 a4 a5 hf
      cases hin : K.inAny op [(K.lo j, K.hi j)]
      · have HR : Hid (K.fmt op = K.fmtF op (11 - (j + 1)) (j + 1)) := hid (by
          rw [K.in_one] at hin
          rw [HI.out, HS.out, if_neg (by simp at hin; omega)])
        generalize K.lo j = lo at *
        generalize K.hi j = hi at *
        generalize K.len j = ln at *
        go_wp2_with (go_at_call 128; refine (within_any op _ 0 1 [(lo, hi)] (by simp) _ (fun i hi => ?_) (fun i hi => ?_)).mono ?_; (obtain rfl : i = 0 := by simpa using hi); go_simp; (obtain rfl : i = 0 := by simpa using hi); go_simp; rintro e w2 ⟨rfl, hb2⟩)
        go_roundw
        case rel => exact ⟨j + 1, by omega, by go_num, HR, Nz.bel⟩
        case measure => simp [intOf]; omega
      · have HR : Hid (K.fmt op = some j) := hid (by
          rw [K.in_one] at hin
          rw [HI.out, HS.out, if_pos (by simpa using hin)])
        have HL : Hid (∀ x, Ending.returned x = Ending.returned x) := hid fun _ => rfl
        generalize hlo : K.lo j = lo at *
        generalize hhi : K.hi j = hi at *
        generalize hln : K.len j = ln at *
        have HLO := hid hlo; have HHI := hid hhi; have HLN := hid hln
        clear hlo hhi hln
        go_wp2_with (go_at_call 128; refine (within_any op _ 0 1 [(lo, hi)] (by simp) _ (fun i hi => ?_) (fun i hi => ?_)).mono ?_; (obtain rfl : i = 0 := by simpa using hi); go_simp; (obtain rfl : i = 0 := by simpa using hi); go_simp; rintro e w2 ⟨rfl, hb2⟩; have y0 := Bel.at hb2 (ad := ⟨wr.heap.size, 0, none⟩) (v := .int .i64 lo) (by first | assumption | (go_simp)); have y1 := Bel.at hb2 (ad := ⟨wr.heap.size, 1, none⟩) (v := .int .i64 hi) (by first | assumption | (go_simp)); have y2 := Bel.at hb2 (ad := ⟨wr.heap.size, 2, none⟩) (v := .int .i64 ln) (by first | assumption | (go_simp)); have y3 := Bel.at hb2 (ad := ⟨wr.heap.size, 3, none⟩) (v := .func (.func F1) #[] cs1) (by first | assumption | (go_simp)); have y4 := Bel.at hb2 (ad := ⟨wr.heap.size, 4, none⟩) (v := .func (.func F2) #[] cs2) (by first | assumption | (go_simp)); have x0 := Bel.at hb2 (ad := ⟨w.heap.size, 0, none⟩) (v := .int .i64 0) (by first | assumption | (go_simp)); have x1 := Bel.at hb2 (ad := ⟨w.heap.size, 1, none⟩) (v := .int .i64 0) (by first | assumption | (go_simp)); have x2 := Bel.at hb2 (ad := ⟨w.heap.size, 2, none⟩) (v := .int .i64 0) (by first | assumption | (go_simp)); have x3 := Bel.at hb2 (ad := ⟨w.heap.size, 3, none⟩) (v := .nilFunc) (by first | assumption | (go_simp)); have x4 := Bel.at hb2 (ad := ⟨w.heap.size, 4, none⟩) (v := .nilFunc) (by first | assumption | (go_simp)); have xf : ∀ j, w2.frozen? ⟨w.heap.size, j, none⟩ = false := fun j => by rw [hb2.frozen _ _ (by simp; omega)]; go_simp)
        have HFm2 := HFm.out.bel (show Bel wr w2 from Nz.bel)
        have hbw : Bel w w2 := Nz.bel
        refine bodyPost_ret (v := .tuple #[.agg #[.int .i64 lo, .int .i64 hi, .int .i64 ln, .func (.func F1) #[] cs1, .func (.func F2) #[] cs2], .bool true]) (by simp [results, Tryz.results106, go_sem, x0, x1, x2, x3, x4]) rfl (.inl ⟨j, _, _, c1, HR.out, by rw [HLO.out, HHI.out, HLN.out], ?_, ?_⟩)
        · refine HFm2.ch (S := fun x => x = w.heap.size) (by repeat (first | refine Ch.put ?_ _ _ | exact Ch.refl _ _)) (by rintro x rfl; exact ⟨_, x0⟩)
        · repeat (first | refine Bel.setCell ?_ (Nat.le_refl _) _ | exact hbw)
    · have HR : Hid (K.fmt op = none) := hid (by rw [HI.out, show 11 - j = 0 by omega]; rfl)
      clear hf
      go_wp2
      refine bodyPost_ret (v := .tuple #[.agg #[.int .i64 0, .int .i64 0, .int .i64 0, .nilFunc, .nilFunc], .bool false]) (by simp [results, Tryz.results106, go_sem, z0, z1, z2, z3, z4]) rfl (.inr ⟨HR.out, rfl, ?_⟩)
      repeat (first | refine Bel.setCell ?_ (Nat.le_refl _) _ | exact hb0.trans hbr)
theorem takes2_c (f1 f2 : FuncId) (w : World) (T : TypeId) :
    Calls Tryz.prog 142 #[.slice (some ⟨w.heap.size, 0, none⟩) 2 2] (w.alloc (.cells #[.func (.func f1) #[] #[], .func (.func f2) #[] #[]] T)) fun e w' => ∃ c, e = .returned (.func (.func 166) #[] #[.pointer (some ⟨c, 0, none⟩)]) ∧ K.Cl 166 [f1, f2] (.func (.func 166) #[] #[.pointer (some ⟨c, 0, none⟩)]) w' ∧ Bel w w' :=
  (takes2_any f1 f2 w T).mono fun e w' ⟨v, he, ⟨c, h, cap, hv, h1, h2⟩, hb⟩ => ⟨c, by rw [he, hv], ⟨c, h, cap, rfl, h1, h2⟩, hb⟩
theorem puts2_c (f1 f2 : FuncId) (w : World) (T : TypeId) :
    Calls Tryz.prog 144 #[.slice (some ⟨w.heap.size, 0, none⟩) 2 2] (w.alloc (.cells #[.func (.func f1) #[] #[], .func (.func f2) #[] #[]] T)) fun e w' => ∃ c, e = .returned (.func (.func 168) #[] #[.pointer (some ⟨c, 0, none⟩)]) ∧ K.Cl 168 [f1, f2] (.func (.func 168) #[] #[.pointer (some ⟨c, 0, none⟩)]) w' ∧ Bel w w' :=
  (puts2_any f1 f2 w T).mono fun e w' ⟨v, he, ⟨c, h, cap, hv, h1, h2⟩, hb⟩ => ⟨c, by rw [he, hv], ⟨c, h, cap, rfl, h1, h2⟩, hb⟩
theorem takes3_c (f1 f2 f3 : FuncId) (w : World) (T : TypeId) :
    Calls Tryz.prog 142 #[.slice (some ⟨w.heap.size, 0, none⟩) 3 3] (w.alloc (.cells #[.func (.func f1) #[] #[], .func (.func f2) #[] #[], .func (.func f3) #[] #[]] T)) fun e w' => ∃ c, e = .returned (.func (.func 166) #[] #[.pointer (some ⟨c, 0, none⟩)]) ∧ K.Cl 166 [f1, f2, f3] (.func (.func 166) #[] #[.pointer (some ⟨c, 0, none⟩)]) w' ∧ Bel w w' :=
  (takes3_any f1 f2 f3 w T).mono fun e w' ⟨v, he, ⟨c, h, cap, hv, h1, h2⟩, hb⟩ => ⟨c, by rw [he, hv], ⟨c, h, cap, rfl, h1, h2⟩, hb⟩
theorem puts3_c (f1 f2 f3 : FuncId) (w : World) (T : TypeId) :
    Calls Tryz.prog 144 #[.slice (some ⟨w.heap.size, 0, none⟩) 3 3] (w.alloc (.cells #[.func (.func f1) #[] #[], .func (.func f2) #[] #[], .func (.func f3) #[] #[]] T)) fun e w' => ∃ c, e = .returned (.func (.func 168) #[] #[.pointer (some ⟨c, 0, none⟩)]) ∧ K.Cl 168 [f1, f2, f3] (.func (.func 168) #[] #[.pointer (some ⟨c, 0, none⟩)]) w' ∧ Bel w w' :=
  (puts3_any f1 f2 f3 w T).mono fun e w' ⟨v, he, ⟨c, h, cap, hv, h1, h2⟩, hb⟩ => ⟨c, by rw [he, hv], ⟨c, h, cap, rfl, h1, h2⟩, hb⟩
theorem cell_new (w : World) (cs : Array Value) (T : TypeId) (j : Nat) (v : Value) (h : cs[j]? = some v) : (w.alloc (.cells cs T)).cell? ⟨w.heap.size, j, none⟩ = some v := by
  rw [← h]; unfold World.cell? World.alloc; simp
set_option maxHeartbeats 2000000 in
theorem formats_any : K.FmtsOK := by
  intro w
  go_enter Tryz.func127, Tryz.ntmps127
  go_wp2_with fail
  refine (takes2_c _ _ _ _).mono ?_
  rintro e w1 ⟨c1, rfl, hv1, hb1⟩
  have H1 := hid hv1; have B1 := hid hb1; clear hv1 hb1
  go_wp2_with fail
  refine (puts2_c _ _ _ _).mono ?_
  rintro e w2 ⟨c2, rfl, hv2, hb2⟩
  have H2 := hid hv2; have B2 := hid hb2; clear hv2 hb2
  go_wp2_with fail
  refine (takes2_c _ _ _ _).mono ?_
  rintro e w3 ⟨c3, rfl, hv3, hb3⟩
  have H3 := hid hv3; have B3 := hid hb3; clear hv3 hb3
  go_wp2_with fail
  refine (puts2_c _ _ _ _).mono ?_
  rintro e w4 ⟨c4, rfl, hv4, hb4⟩
  have H4 := hid hv4; have B4 := hid hb4; clear hv4 hb4
  go_wp2_with fail
  refine (takes2_c _ _ _ _).mono ?_
  rintro e w5 ⟨c5, rfl, hv5, hb5⟩
  have H5 := hid hv5; have B5 := hid hb5; clear hv5 hb5
  go_wp2_with fail
  refine (puts2_c _ _ _ _).mono ?_
  rintro e w6 ⟨c6, rfl, hv6, hb6⟩
  have H6 := hid hv6; have B6 := hid hb6; clear hv6 hb6
  go_wp2_with fail
  refine (takes3_c _ _ _ _ _).mono ?_
  rintro e w7 ⟨c7, rfl, hv7, hb7⟩
  have H7 := hid hv7; have B7 := hid hb7; clear hv7 hb7
  go_wp2_with fail
  refine (puts3_c _ _ _ _ _).mono ?_
  rintro e w8 ⟨c8, rfl, hv8, hb8⟩
  have H8 := hid hv8; have B8 := hid hb8; clear hv8 hb8
  go_wp2_with fail
  go_ret
  refine ⟨w8.heap.size, fun k => [.func (.func 136) #[] #[], .func (.func 138) #[] #[], .func (.func 140) #[] #[], .func (.func 166) #[] #[.pointer (some ⟨c1, 0, none⟩)], .func (.func 166) #[] #[.pointer (some ⟨c3, 0, none⟩)], .func (.func 166) #[] #[.pointer (some ⟨c5, 0, none⟩)], .func (.func 166) #[] #[.pointer (some ⟨c7, 0, none⟩)], .func (.func 143) #[] #[], .func (.func 146) #[] #[], .func (.func 150) #[] #[], .func (.func 140) #[] #[]].getD k .nilFunc, fun k => [.func (.func 137) #[] #[], .func (.func 139) #[] #[], .func (.func 141) #[] #[], .func (.func 168) #[] #[.pointer (some ⟨c2, 0, none⟩)], .func (.func 168) #[] #[.pointer (some ⟨c4, 0, none⟩)], .func (.func 168) #[] #[.pointer (some ⟨c6, 0, none⟩)], .func (.func 168) #[] #[.pointer (some ⟨c8, 0, none⟩)], .func (.func 145) #[] #[], .func (.func 147) #[] #[], .func (.func 145) #[] #[], .func (.func 141) #[] #[]].getD k .nilFunc, rfl, ?_, ?_⟩
  · have b8 : ∀ o, Bel w8 (w8.alloc o) := fun o => Bel.alloc (Bel.refl _) o
    have b7 := fun o => B8.out.trans (b8 o)
    have b6 := fun o => B7.out.trans (b7 o)
    have b5 := fun o => B6.out.trans (b6 o)
    have b4 := fun o => B5.out.trans (b5 o)
    have b3 := fun o => B4.out.trans (b4 o)
    have b2 := fun o => B3.out.trans (b3 o)
    have b1 := fun o => B2.out.trans (b2 o)
    intro k hk
    rcases (by omega : k = 0 ∨ k = 1 ∨ k = 2 ∨ k = 3 ∨ k = 4 ∨ k = 5 ∨ k = 6 ∨ k = 7 ∨ k = 8 ∨ k = 9 ∨ k = 10) with rfl | rfl | rfl | rfl | rfl | rfl | rfl | rfl | rfl | rfl | rfl
    · exact ⟨cell_new _ _ _ _ _ rfl, cell_new _ _ _ _ _ rfl, cell_new _ _ _ _ _ rfl, cell_new _ _ _ _ _ rfl, cell_new _ _ _ _ _ rfl, ⟨rfl, rfl⟩⟩
    · exact ⟨cell_new _ _ _ _ _ rfl, cell_new _ _ _ _ _ rfl, cell_new _ _ _ _ _ rfl, cell_new _ _ _ _ _ rfl, cell_new _ _ _ _ _ rfl, ⟨rfl, rfl⟩⟩
    · exact ⟨cell_new _ _ _ _ _ rfl, cell_new _ _ _ _ _ rfl, cell_new _ _ _ _ _ rfl, cell_new _ _ _ _ _ rfl, cell_new _ _ _ _ _ rfl, ⟨rfl, rfl⟩⟩
    · exact ⟨cell_new _ _ _ _ _ rfl, cell_new _ _ _ _ _ rfl, cell_new _ _ _ _ _ rfl, cell_new _ _ _ _ _ rfl, cell_new _ _ _ _ _ rfl, ⟨H1.out.bel (b1 _), H2.out.bel (b2 _)⟩⟩
    · exact ⟨cell_new _ _ _ _ _ rfl, cell_new _ _ _ _ _ rfl, cell_new _ _ _ _ _ rfl, cell_new _ _ _ _ _ rfl, cell_new _ _ _ _ _ rfl, ⟨H3.out.bel (b3 _), H4.out.bel (b4 _)⟩⟩
    · exact ⟨cell_new _ _ _ _ _ rfl, cell_new _ _ _ _ _ rfl, cell_new _ _ _ _ _ rfl, cell_new _ _ _ _ _ rfl, cell_new _ _ _ _ _ rfl, ⟨H5.out.bel (b5 _), H6.out.bel (b6 _)⟩⟩
    · exact ⟨cell_new _ _ _ _ _ rfl, cell_new _ _ _ _ _ rfl, cell_new _ _ _ _ _ rfl, cell_new _ _ _ _ _ rfl, cell_new _ _ _ _ _ rfl, ⟨H7.out.bel (b7 _), H8.out.bel (b8 _)⟩⟩
    · exact ⟨cell_new _ _ _ _ _ rfl, cell_new _ _ _ _ _ rfl, cell_new _ _ _ _ _ rfl, cell_new _ _ _ _ _ rfl, cell_new _ _ _ _ _ rfl, ⟨rfl, rfl⟩⟩
    · exact ⟨cell_new _ _ _ _ _ rfl, cell_new _ _ _ _ _ rfl, cell_new _ _ _ _ _ rfl, cell_new _ _ _ _ _ rfl, cell_new _ _ _ _ _ rfl, ⟨rfl, rfl⟩⟩
    · exact ⟨cell_new _ _ _ _ _ rfl, cell_new _ _ _ _ _ rfl, cell_new _ _ _ _ _ rfl, cell_new _ _ _ _ _ rfl, cell_new _ _ _ _ _ rfl, ⟨rfl, rfl⟩⟩
    · exact ⟨cell_new _ _ _ _ _ rfl, cell_new _ _ _ _ _ rfl, cell_new _ _ _ _ _ rfl, cell_new _ _ _ _ _ rfl, cell_new _ _ _ _ _ rfl, ⟨rfl, rfl⟩⟩
  · exact (((((((B1.out.trans B2.out).trans B3.out).trans B4.out).trans B5.out).trans B6.out).trans B7.out).trans B8.out).alloc _
theorem Ch.kept1 {ga g j : Nat} {a b : World} {v : Value} (k : Ch (fun x => x = ga) a b) (h : g ≠ ga) (hc : a.cell? ⟨g, j, none⟩ = some v) : b.cell? ⟨g, j, none⟩ = some v := (k.cell g j (lt_of_cell hc) h).trans hc
theorem Ki.new (x : World) : Ki x.heap.size ⟨0, 0, 0, 0, 0, 0, 0⟩ (x.alloc (.cells #[.int .i64 0, .int .i64 0, .int .i64 0, .int .i64 0, .int .i64 0, .int .u32 0, .int .i64 0] 66)) := ⟨by go_simp, by go_simp, by go_simp, by go_simp, by go_simp, by go_simp, by go_simp, fun j => by go_simp⟩
theorem Ki.new7 (x : World) (i : K.Ins) : Ki x.heap.size i (x.alloc (.cells #[.int .i64 i.op, .int .i64 i.d, .int .i64 i.s, .int .i64 i.ix, .int .i64 i.sc, .int .u32 i.imm, .int .i64 i.sz] 66)) := ⟨by go_simp, by go_simp, by go_simp, by go_simp, by go_simp, by go_simp, by go_simp, fun j => by go_simp⟩
theorem Ki.put7 {g : Nat} {i : K.Ins} {w : World} (h : Ki g i w) (k : K.Ins) : Ki g k (((((((w.setCell ⟨g, 0, none⟩ (.int .i64 k.op)).setCell ⟨g, 1, none⟩ (.int .i64 k.d)).setCell ⟨g, 2, none⟩ (.int .i64 k.s)).setCell ⟨g, 3, none⟩ (.int .i64 k.ix)).setCell ⟨g, 4, none⟩ (.int .i64 k.sc)).setCell ⟨g, 5, none⟩ (.int .u32 k.imm)).setCell ⟨g, 6, none⟩ (.int .i64 k.sz)) := by
  obtain ⟨c0, c1, c2, c3, c4, c5, c6, fz⟩ := h
  have hh : ∀ {x : World} {j j' : Nat} {v : Value} {u : Value}, j ≠ j' → x.cell? ⟨g, j', none⟩ = some u → (x.setCell ⟨g, j, none⟩ v).cell? ⟨g, j', none⟩ = some u := fun hn hc => (other_cell _ _ (.inr hn)).trans hc
  have s0 := cell_set (v := .int .i64 k.op) c0
  have s1 := cell_set (v := .int .i64 k.d) (hh (v := .int .i64 k.op) (show 0 ≠ 1 by decide) c1)
  refine ⟨?_, ?_, ?_, ?_, ?_, ?_, ?_, fun j => by simp only [frozen_set]; exact fz j⟩
  · exact hh (by decide) (hh (by decide) (hh (by decide) (hh (by decide) (hh (by decide) (hh (by decide) (cell_set c0))))))
  · exact hh (by decide) (hh (by decide) (hh (by decide) (hh (by decide) (hh (by decide) (cell_set (hh (by decide) c1))))))
  · exact hh (by decide) (hh (by decide) (hh (by decide) (hh (by decide) (cell_set (hh (by decide) (hh (by decide) c2))))))
  · exact hh (by decide) (hh (by decide) (hh (by decide) (cell_set (hh (by decide) (hh (by decide) (hh (by decide) c3))))))
  · exact hh (by decide) (hh (by decide) (cell_set (hh (by decide) (hh (by decide) (hh (by decide) (hh (by decide) c4))))))
  · exact hh (by decide) (cell_set (hh (by decide) (hh (by decide) (hh (by decide) (hh (by decide) (hh (by decide) c5))))))
  · exact cell_set (hh (by decide) (hh (by decide) (hh (by decide) (hh (by decide) (hh (by decide) (hh (by decide) c6))))))
theorem Ch.undrew {S : Nat → Prop} {a b : World} (h : Ch S a.drew b) : Ch S a b := ⟨h.os, h.tape, h.output, h.size, h.block⟩
theorem Ch.unalloc {S : Nat → Prop} {a b : World} {o : Obj} (h : Ch S (a.alloc o) b) : Ch S a b := ((Bel.alloc (Bel.refl a) o).ch S).trans h
theorem Ch.at_new {ga g j : Nat} {a b : World} {v : Value} (h : Ch (fun x => x = ga) a b) (hg : a.heap.size ≤ g) : Ch (fun x => x = ga) a (b.setCell ⟨g, j, none⟩ v) := h.setCell (p := ⟨g, j, none⟩) (fun hl => absurd hl (Nat.not_lt.2 hg)) v
set_option maxHeartbeats 2000000 in
theorem read_of (lo hi sz : Int) (F G : FuncId) (cs ds : Array Value) (s : ByteArray) (j : K.Ins) (w : World) (hs : s.size ≤ maxLen) (h0 : 0 < s.size) (HE : ∀ (args : Array Value) (w : World), (callFunc F args).run Tryz.prog w = .ok (.enter F args) w)
    (HT : ∀ (ga gs gi : Nat) (wx : World), Rd ga gs s 1 wx → Ki gi ⟨W.byt s.data.toList 0, 0, 0, -1, 0, 0, sz⟩ wx → ga ≠ gi → gs ≠ gi → w.heap.size ≤ ga → w.heap.size ≤ gi → Bel w wx →
      Calls Tryz.prog F (#[.func (.func 129) #[] #[.pointer (some ⟨ga, 0, none⟩), .pointer (some ⟨gs, 0, none⟩)], .pointer (some ⟨gi, 0, none⟩)] ++ cs) wx fun e w' => e = .returned (.tuple #[]) ∧ Ki gi j w' ∧ Ch (fun x => x = ga ∨ x = gi) wx w') :
    Calls Tryz.prog 107 #[.agg #[.int .i64 lo, .int .i64 hi, .int .i64 sz, .func (.func F) #[] cs, .func (.func G) #[] ds], .string s] w fun e w' => e = .returned (.agg #[.int .i64 j.op, .int .i64 j.d, .int .i64 j.s, .int .i64 j.ix, .int .i64 j.sc, .int .u32 j.imm, .int .i64 j.sz]) ∧ Bel w w' := by
  go_enter Tryz.func107, Tryz.ntmps107
  go_upto_region 3 with fail
  obtain ⟨ga, hga⟩ : ∃ x, x = w.heap.size + 1 + 1 + 1 := ⟨_, rfl⟩
  obtain ⟨gs, hgs⟩ : ∃ x, x = w.heap.size + 1 := ⟨_, rfl⟩
  obtain ⟨gr, hgr⟩ : ∃ x, x = w.heap.size + 1 + 1 := ⟨_, rfl⟩
  have hi1 : w.heap.size ≠ ga := by omega
  have hi2 : gs ≠ ga := by omega
  have hi3 : gr ≠ ga := by omega
  have hi4 : gr ≠ gs := by omega
  have hi5 : w.heap.size ≤ ga := by omega
  have hi6 : w.heap.size ≤ gr := by omega
  have R0 : Rd (w.heap.size + 1 + 1 + 1) (w.heap.size + 1) s 0 ((((w.alloc (.cells #[.int .i64 lo, .int .i64 hi, .int .i64 sz, .func (.func F) #[] cs, .func (.func G) #[] ds] 174)).alloc (.cells #[.string s] 9)).alloc (.cells #[.int .i64 0, .int .i64 0, .int .i64 0, .int .i64 0, .int .i64 0, .int .u32 0, .int .i64 0] 66)).alloc (.cells #[.int .i64 0] 3)) := ⟨by go_simp, by go_simp, by go_simp, by omega⟩
  have Q0 : Ki (w.heap.size + 1 + 1) ⟨0, 0, 0, 0, 0, 0, 0⟩ ((((w.alloc (.cells #[.int .i64 lo, .int .i64 hi, .int .i64 sz, .func (.func F) #[] cs, .func (.func G) #[] ds] 174)).alloc (.cells #[.string s] 9)).alloc (.cells #[.int .i64 0, .int .i64 0, .int .i64 0, .int .i64 0, .int .i64 0, .int .u32 0, .int .i64 0] 66)).alloc (.cells #[.int .i64 0] 3)) := ⟨by go_simp, by go_simp, by go_simp, by go_simp, by go_simp, by go_simp, by go_simp, fun j => by go_simp⟩
  have B2 : ((((w.alloc (.cells #[.int .i64 lo, .int .i64 hi, .int .i64 sz, .func (.func F) #[] cs, .func (.func G) #[] ds] 174)).alloc (.cells #[.string s] 9)).alloc (.cells #[.int .i64 0, .int .i64 0, .int .i64 0, .int .i64 0, .int .i64 0, .int .u32 0, .int .i64 0] 66)).alloc (.cells #[.int .i64 0] 3)).cell? ⟨w.heap.size, 2, none⟩ = some (.int .i64 sz) := by go_simp
  have B3 : ((((w.alloc (.cells #[.int .i64 lo, .int .i64 hi, .int .i64 sz, .func (.func F) #[] cs, .func (.func G) #[] ds] 174)).alloc (.cells #[.string s] 9)).alloc (.cells #[.int .i64 0, .int .i64 0, .int .i64 0, .int .i64 0, .int .i64 0, .int .u32 0, .int .i64 0] 66)).alloc (.cells #[.int .i64 0] 3)).cell? ⟨w.heap.size, 3, none⟩ = some (.func (.func F) #[] cs) := by go_simp
  have hb : Bel w ((((w.alloc (.cells #[.int .i64 lo, .int .i64 hi, .int .i64 sz, .func (.func F) #[] cs, .func (.func G) #[] ds] 174)).alloc (.cells #[.string s] 9)).alloc (.cells #[.int .i64 0, .int .i64 0, .int .i64 0, .int .i64 0, .int .i64 0, .int .u32 0, .int .i64 0] 66)).alloc (.cells #[.int .i64 0] 3)) := Nz.bel
  generalize ((((w.alloc (.cells #[.int .i64 lo, .int .i64 hi, .int .i64 sz, .func (.func F) #[] cs, .func (.func G) #[] ds] 174)).alloc (.cells #[.string s] 9)).alloc (.cells #[.int .i64 0, .int .i64 0, .int .i64 0, .int .i64 0, .int .i64 0, .int .u32 0, .int .i64 0] 66)).alloc (.cells #[.int .i64 0] 3)) = wA at *
  rw [← hga, ← hgr, ← hgs] at *
  have hA : ga < wA.heap.size := lt_of_cell R0.at'
  have hS : gs < wA.heap.size := lt_of_cell R0.str
  have hR : gr < wA.heap.size := lt_of_cell Q0.c0
  have hF : w.heap.size < wA.heap.size := lt_of_cell B2
  have hwr : IntKind.i64.wrap (W.byt s.data.toList 0) = W.byt s.data.toList 0 := IntWalk.i64_in _ (by have := W.byt_bd s.data.toList 0; omega)
  have hgB : ga ≠ wA.heap.size := by omega
  have hgC : gs ≠ wA.heap.size := by omega
  have hgA : ¬ wA.heap.size = ga := by omega
  clear hga hgr hgs
  have B2d : ∀ o, (wA.drew.alloc o).cell? ⟨w.heap.size, 2, none⟩ = some (.int .i64 sz) := fun o => Bel.at (Bel.alloc (Bel.drew (Bel.refl _)) o) B2
  have B2e : wA.drew.cell? ⟨w.heap.size, 2, none⟩ = some (.int .i64 sz) := Bel.at (Bel.drew (Bel.refl _)) B2
  go_cut [7] from 9 to 14 (fun s7 wx => ∃ gi, s7 = .pointer (some ⟨gi, 0, none⟩) ∧ wA.heap.size ≤ gi ∧ Rd ga gs s 1 wx ∧ Ki gi ⟨W.byt s.data.toList 0, 0, 0, -1, 0, 0, sz⟩ wx ∧ Ch (fun x => x = ga) wA wx)
  case first =>
    go_region_with (go_at_call 129; refine (next_any _ _ _ 0 _ ?_ h0 hs).mono ?_; (first | exact R0 | exact R0.bel (Bel.alloc (Bel.drew (Bel.refl _)) _) | exact R0.bel (Bel.alloc (Bel.refl _) _) | exact R0.bel (Bel.drew (Bel.refl _))); rintro e w2 ⟨rfl, hr1, hch⟩; (first | (have B2' : w2.cell? ⟨w.heap.size, 2, none⟩ = some (.int .i64 sz) := Ch.kept1 hch hi1 B2) | (have B2' : w2.cell? ⟨w.heap.size, 2, none⟩ = some (.int .i64 sz) := Ch.kept1 hch hi1 (Bel.at (Bel.alloc (Bel.refl _) _) B2)) | (have B2' : w2.cell? ⟨w.heap.size, 2, none⟩ = some (.int .i64 sz) := Ch.kept1 hch hi1 (Bel.at (Bel.drew (Bel.refl _)) B2)) | (have B2' : w2.cell? ⟨w.heap.size, 2, none⟩ = some (.int .i64 sz) := Ch.kept1 hch hi1 (Bel.at (Bel.alloc (Bel.drew (Bel.refl _)) _) B2))); have B2'' : ∀ o, (w2.alloc o).cell? ⟨w.heap.size, 2, none⟩ = some (.int .i64 sz) := (fun o => Bel.at (Bel.alloc (Bel.refl _) o) B2'); try (obtain ⟨A0, A1, A2, A3, A4, A5, A6, AF⟩ := (show Ki wA.heap.size _ (wA.drew.alloc _) from Ki.new wA.drew).ch hch hgA))
    all_goals
      go_wp2_with fail
      go_meet
      first
        | exact ⟨w2.heap.size, rfl, hch.size, hr1.bel (Bel.alloc (Bel.refl _) _), Ki.new7 w2 ⟨W.byt s.data.toList 0, 0, 0, -1, 0, 0, sz⟩, hch.undrew.alloc _⟩
        | exact ⟨wA.heap.size, rfl, Nat.le_refl _, ((((((hr1.set hgB hgC).set hgB hgC).set hgB hgC).set hgB hgC).set hgB hgC).set hgB hgC).set hgB hgC, Ki.put7 (i := ⟨0, 0, 0, 0, 0, 0, 0⟩) ⟨A0, A1, A2, A3, A4, A5, A6, AF⟩ ⟨W.byt s.data.toList 0, 0, 0, -1, 0, 0, sz⟩, ((((((hch.unalloc.undrew.at_new (Nat.le_refl _)).at_new (Nat.le_refl _)).at_new (Nat.le_refl _)).at_new (Nat.le_refl _)).at_new (Nat.le_refl _)).at_new (Nat.le_refl _)).at_new (Nat.le_refl _)⟩
  case rest =>
    obtain ⟨gi, rfl, hgi, hr, hk, hch⟩ := hcut
    have b3 := Ch.kept1 hch hi1 B3
    have Q1 := Q0.ch hch hi3
    have hbc : Bel w wc := Bel.then hb hch (by rintro x rfl; exact hi5)
    have n1 : ga ≠ gi := by omega
    have n2 : gs ≠ gi := by omega
    have n3 : ¬ (gr = ga ∨ gr = gi) := by omega
    have n4 : w.heap.size ≤ gi := by omega
    clear B2 B3 B2d B2e R0 Q0 hgA hgB hgC hA hS hR hF hb hch
    go_wp2_with (refine (HT ga gs gi wc hr hk n1 n2 hi5 n4 hbc).mono ?_; rintro e w3 ⟨rfl, hk3, hch3⟩; obtain ⟨q0, q1, q2, q3, q4, q5, q6, qf⟩ := hk3; obtain ⟨r0, r1, r2, r3, r4, r5, r6, rf⟩ := Q1.ch hch3 n3)
    have hb3 : Bel w w3 := Bel.then hbc hch3 (fun x hx => hx.elim (fun e => e ▸ hi5) (fun e => e ▸ n4))
    refine bodyPost_ret (v := .agg #[.int .i64 j.op, .int .i64 j.d, .int .i64 j.s, .int .i64 j.ix, .int .i64 j.sc, .int .u32 j.imm, .int .i64 j.sz]) (by simp [results, Tryz.results107, go_sem, r0, r1, r2, r3, r4, r5, r6]) rfl ⟨rfl, ?_⟩
    repeat (first | refine Bel.setCell ?_ hi6 _ | exact hb3)
end Go.Proofs.YtglidnmmeclneaaGreat
