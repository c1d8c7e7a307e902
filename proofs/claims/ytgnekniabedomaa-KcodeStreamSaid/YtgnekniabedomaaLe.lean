/- Walks: the law KcodeStream, printed by wip/eng. No condition but what is named. -/
import Derived.Test.YtgnekniabedomaaProg
import Derived.Test.YtgnekniabedomaaLc
namespace Go.Proofs.Ytgnekniabedomaa
set_option linter.unusedVariables false
set_option linter.unusedSimpArgs false
open Go.RowKit
theorem E.run_loadA {P : Program} (w : World) (ad : Addr) : ∀ (xs : List Value) (i : Nat) (acc : Array Value), (∀ k v, xs[k]? = some v → w.cell? (ad.add (i + k)) = some v) →
    (loadCellsFrom ad i xs.length acc).run P w = .ok (acc ++ xs.toArray) w
  | [], i, acc, _ => by simp [loadCellsFrom, pure, Sem.run]
  | x :: xs, i, acc, h => by
    have h0 : w.cell? (ad.add i) = some x := h 0 x rfl
    have ih := E.run_loadA (P := P) w ad xs (i + 1) (acc.push x) (fun k v hk => by have := h (k + 1) v (by simpa using hk); rwa [show i + 1 + k = i + (k + 1) by omega])
    show (Sem.bind (load (ad.add i)) fun v => loadCellsFrom ad (i + 1) xs.length (acc.push v)).run P w = _
    simp only [load, Sem.bind, Sem.run, h0]
    rw [ih]
    simp
/-- The rows of a slice of rows of five. -/
def K.Rows (ad : Addr) (n : Nat) (q : Nat → Nat → Int) (w : World) : Prop := ∀ i, i < n → ∀ j, j < 5 → w.cell? ((ad.add (i * 5)).add j) = some (.int .i64 (q i j))
def K.row (q : Nat → Nat → Int) (k : Nat) : K.Ins := R2.Made (q k 0) (q k 1) (q k 2) (q k 3) (q k 4)
theorem K.load5 {n : Nat} {fr : E.Fr} {d : Option Nat} {T : TypeId} {pos : String} {af : Array Edge} {gd : Option (Nat × Bool)} {ad : Addr} {m : Nat} {q : Nat → Nat → Int} {w : World} (h : K.Rows ad m q w) {k : Nat} {x : Operand} (hx : E.ev fr x = .pointer (some (ad.add (k * 5)))) (hk : k < m) :
    (execOp (E.ev fr) ⟨d, .load 35 x, T, pos, af, gd⟩).run Try.prog w = .ok (.value (.agg #[.int .i64 (q k 0), .int .i64 (q k 1), .int .i64 (q k 2), .int .i64 (q k 3), .int .i64 (q k 4)])) w := by
  have hl := E.run_loadA (P := Try.prog) w (ad.add (k * 5)) [.int .i64 (q k 0), .int .i64 (q k 1), .int .i64 (q k 2), .int .i64 (q k 3), .int .i64 (q k 4)] 0 #[] (fun j v hj => by
    rw [Nat.zero_add]
    have hr := h k hk
    match j, hj with
    | 0, hj => rw [hr 0 (by decide)]; simpa using hj
    | 1, hj => rw [hr 1 (by decide)]; simpa using hj
    | 2, hj => rw [hr 2 (by decide)]; simpa using hj
    | 3, hj => rw [hr 3 (by decide)]; simpa using hj
    | 4, hj => rw [hr 4 (by decide)]; simpa using hj
    | j + 5, hj => simp at hj)
  have hu : Try.prog.underlying 35 = some (.array 5 3) := Try.underlying35
  have ha : (isAgg 35).run Try.prog w = .ok true w := by simp [isAgg, underlying, hu]
  have hs : (sizeOf 35).run Try.prog w = .ok 5 w := by
    have hi : (Try.prog.info? 35).map (·.size) = some 5 := by kernel_rfl
    cases hi0 : Try.prog.info? 35 with
    | none => rw [hi0] at hi; cases hi
    | some i => rw [hi0] at hi; simp [sizeOf, typeInfo, hi0]; simpa using hi
  show (do let r ← Instr.loadAt 35 (E.ev fr x); pure (Next.value r) : Sem Next).run Try.prog w = _
  rw [hx]
  simp only [List.length_cons, List.length_nil] at hl
  simp [Instr.loadAt, Instr.sureAddr, loadVar, ha, hs, loadCells, hl]
theorem E.idxSA {fr : E.Fr} {d : Option Nat} {T : TypeId} {pos : String} {af : Array Edge} {gd : Option (Nat × Bool)} {P : Program} {t e : TypeId} {x ix : Operand} (ad : Addr) (len cap esz : Nat) (k : IntKind) (i : Nat) (hu : P.underlying t = some (.slice e)) (hs : (P.info? e).map (·.size) = some esz) (hx : E.ev fr x = .slice (some ad) len cap) (hi : E.ev fr ix = .int k ((i : Nat) : Int))
    (h1 : i < len) (w : World) : (execOp (E.ev fr) ⟨d, .indexAddr t x ix, T, pos, af, gd⟩).run P w = .ok (.value (.pointer (some (ad.add (i * esz))))) w := by
  cases hi0 : P.info? e with
  | none => rw [hi0] at hs; cases hs
  | some ie =>
    rw [hi0] at hs
    simp only [Option.map_some, Option.some.injEq] at hs
    subst hs
    show (do let r ← Instr.indexAt t (E.ev fr x) (E.ev fr ix); pure (Next.value r) : Sem Next).run P w = _
    rw [hx, hi]
    simp [Instr.indexAt, asIntOf, underlying, hu, Instr.sureAddr, sizeOf, typeInfo, hi0, h1]
theorem K.Rows.hp {ad : Addr} {n : Nat} {q : Nat → Nat → Int} {w : World} (h : K.Rows ad n q w) : E.Hp (fun _ => False) w (fun w => K.Rows ad n q w) [] w := by
  refine ⟨Ch.refl _ _, by simp, by simp, by simp, by simp, by simp, fun w' hz hw i hi j hj => ?_⟩
  have h0 := h i hi j hj
  generalize (ad.add (i * 5)).add j = a at *
  have hb : a.block < w.heap.size := by
    cases hq : w.heap[a.block]? with
    | none => rw [World.cell?, hq] at h0; cases h0
    | some o => exact (Array.getElem?_eq_some_iff.1 hq).1
  rw [World.cell?] at h0 ⊢
  rw [hw a.block hb (by simp)]
  exact h0
def K.cat (q : Nat → Nat → Int) : Nat → ByteArray
  | 0 => ⟨#[]⟩
  | k + 1 => K.cat q k ++ K.bytes (R2.Made (q k 0) (q k 1) (q k 2) (q k 3) (q k 4))
def K.tl (q : Nat → Nat → Int) : Nat → Nat → ByteArray
  | _, 0 => ⟨#[]⟩
  | j, c + 1 => K.bytes (R2.Made (q j 0) (q j 1) (q j 2) (q j 3) (q j 4)) ++ K.tl q (j + 1) c
theorem K.cat_len (q : Nat → Nat → Int) : ∀ k, (K.cat q k).size ≤ 7 * k
  | 0 => Nat.le_refl _
  | k + 1 => by
    have h1 := K.cat_len q k
    have h2 := K.bytes_len (K.made_good (q k 0) (q k 1) (q k 2) (q k 3) (q k 4))
    unfold K.cat
    rw [ByteArray.size_append]; omega
theorem K.tl_len (q : Nat → Nat → Int) : ∀ c j, (K.tl q j c).size ≤ 7 * c
  | 0, _ => Nat.le_refl _
  | c + 1, j => by
    have h1 := K.tl_len q c (j + 1)
    have h2 := K.bytes_len (K.made_good (q j 0) (q j 1) (q j 2) (q j 3) (q j 4))
    unfold K.tl
    rw [ByteArray.size_append]; omega
theorem K.empty_append (a : ByteArray) : (⟨#[]⟩ : ByteArray) ++ a = a := by apply ByteArray.ext; simp
theorem K.tl_last (q : Nat → Nat → Int) : ∀ c j, K.tl q j (c + 1) = K.tl q j c ++ K.bytes (R2.Made (q (j + c) 0) (q (j + c) 1) (q (j + c) 2) (q (j + c) 3) (q (j + c) 4))
  | 0, j => by
    show K.bytes _ ++ (⟨#[]⟩ : ByteArray) = (⟨#[]⟩ : ByteArray) ++ K.bytes _
    rw [K.append_empty, K.empty_append]; rfl
  | c + 1, j => by
    have ih := K.tl_last q c (j + 1)
    show K.bytes _ ++ K.tl q (j + 1) (c + 1) = (K.bytes _ ++ K.tl q (j + 1) c) ++ K.bytes _
    rw [ih, ByteArray.append_assoc, show j + 1 + c = j + (c + 1) by omega]
theorem K.cat_tl (q : Nat → Nat → Int) : ∀ k, K.cat q k = K.tl q 0 k
  | 0 => rfl
  | k + 1 => by rw [K.tl_last, ← K.cat_tl q k, Nat.zero_add]; rfl
theorem K.tl_step (q : Nat → Nat → Int) {j n : Nat} (h : j < n ∧ j < 20) : K.tl q j (min n 20 - j) = K.bytes (R2.Made (q j 0) (q j 1) (q j 2) (q j 3) (q j 4)) ++ K.tl q (j + 1) (min n 20 - (j + 1)) := by
  rw [show min n 20 - j = (min n 20 - (j + 1)) + 1 by omega]; rfl
theorem K.tl_sz (q : Nat → Nat → Int) {j n : Nat} (h : j < n ∧ j < 20) : 1 ≤ (R2.Made (q j 0) (q j 1) (q j 2) (q j 3) (q j 4)).sz ∧ (R2.Made (q j 0) (q j 1) (q j 2) (q j 3) (q j 4)).sz ≤ (K.tl q j (min n 20 - j)).size := by
  have hz := K.good_size (K.made_good (q j 0) (q j 1) (q j 2) (q j 3) (q j 4))
  rw [K.tl_step q h, ByteArray.size_append]; omega
theorem K.dec_tl (q : Nat → Nat → Int) {j n : Nat} (h : j < n ∧ j < 20) (w : World) : Calls Try.prog 14 #[.string (K.tl q j (min n 20 - j))] w fun e w' => e = .returned (.tuple #[.agg #[.int .i64 (R2.Made (q j 0) (q j 1) (q j 2) (q j 3) (q j 4)).op, .int .i64 (R2.Made (q j 0) (q j 1) (q j 2) (q j 3) (q j 4)).d, .int .i64 (R2.Made (q j 0) (q j 1) (q j 2) (q j 3) (q j 4)).s, .int .i64 (R2.Made (q j 0) (q j 1) (q j 2) (q j 3) (q j 4)).ix, .int .i64 (R2.Made (q j 0) (q j 1) (q j 2) (q j 3) (q j 4)).sc, .int .u32 (R2.Made (q j 0) (q j 1) (q j 2) (q j 3) (q j 4)).imm, .int .i64 (R2.Made (q j 0) (q j 1) (q j 2) (q j 3) (q j 4)).sz], .int .i64 0]) ∧ Bel w w' := by
  have hl := K.tl_len q (min n 20 - j) j
  rw [K.tl_step q h] at hl ⊢
  exact Decode_g _ (K.made_good _ _ _ _ _) _ (by unfold maxLen; omega) w
theorem K.tl_drop (q : Nat → Nat → Int) {j n : Nat} (h : j < n ∧ j < 20) : (K.tl q j (min n 20 - j)).extract ((R2.Made (q j 0) (q j 1) (q j 2) (q j 3) (q j 4)).sz).toNat (K.tl q j (min n 20 - j)).size = K.tl q (j + 1) (min n 20 - (j + 1)) := by
  have hz := K.good_size (K.made_good (q j 0) (q j 1) (q j 2) (q j 3) (q j 4))
  rw [K.tl_step q h]
  have e : ((R2.Made (q j 0) (q j 1) (q j 2) (q j 3) (q j 4)).sz).toNat = (K.bytes (R2.Made (q j 0) (q j 1) (q j 2) (q j 3) (q j 4))).size := by omega
  rw [e]
  apply ByteArray.ext
  rw [ByteArray.data_extract, ByteArray.size_append, ByteArray.data_append]
  generalize K.bytes (R2.Made (q j 0) (q j 1) (q j 2) (q j 3) (q j 4)) = u
  generalize K.tl q (j + 1) (min n 20 - (j + 1)) = v
  apply Array.ext'
  rw [Array.toList_extract, Array.toList_append, List.extract_eq_take_drop]
  have e1 : u.size = u.data.toList.length := by rw [Array.length_toList]; rfl
  have e2 : v.size = v.data.toList.length := by rw [Array.length_toList]; rfl
  rw [e1, e2, List.drop_left, List.take_of_length_le (by omega)]
def K.streamC (q : Nat → Nat → Int) (j n : Nat) : Bool := (((!((((R2.Made (q j 0) (q j 1) (q j 2) (q j 3) (q j 4))).op == ((R2.Made (q j 0) (q j 1) (q j 2) (q j 3) (q j 4))).op) && (((R2.Made (q j 0) (q j 1) (q j 2) (q j 3) (q j 4))).d == ((R2.Made (q j 0) (q j 1) (q j 2) (q j 3) (q j 4))).d) && (((R2.Made (q j 0) (q j 1) (q j 2) (q j 3) (q j 4))).s == ((R2.Made (q j 0) (q j 1) (q j 2) (q j 3) (q j 4))).s) && (((R2.Made (q j 0) (q j 1) (q j 2) (q j 3) (q j 4))).ix == ((R2.Made (q j 0) (q j 1) (q j 2) (q j 3) (q j 4))).ix) && (((R2.Made (q j 0) (q j 1) (q j 2) (q j 3) (q j 4))).sc == ((R2.Made (q j 0) (q j 1) (q j 2) (q j 3) (q j 4))).sc) && (((R2.Made (q j 0) (q j 1) (q j 2) (q j 3) (q j 4))).imm == ((R2.Made (q j 0) (q j 1) (q j 2) (q j 3) (q j 4))).imm) && (((R2.Made (q j 0) (q j 1) (q j 2) (q j 3) (q j 4))).sz == ((R2.Made (q j 0) (q j 1) (q j 2) (q j 3) (q j 4))).sz))) || (decide ((((R2.Made (q j 0) (q j 1) (q j 2) (q j 3) (q j 4))).sz) < 1))) || (decide ((((R2.Made (q j 0) (q j 1) (q j 2) (q j 3) (q j 4))).sz) > (((K.tl q j (min n 20 - j)).size : Nat) : Int))))
def K.streamE (q : Nat → Nat → Int) (j n : Nat) : Bool := ((K.tl q j (min n 20 - j)).toList == (⟨#[]⟩ : ByteArray).toList)
theorem K.streamC_false (q : Nat → Nat → Int) (j n : Nat) (h : j < n ∧ j < 20) : K.streamC q j n = false := by
  have hz := K.tl_sz q h
  unfold K.streamC
  simp; omega
theorem K.streamE_true (q : Nat → Nat → Int) (j n : Nat) (h : ¬ (j < n ∧ j < 20)) : K.streamE q j n = true := by
  unfold K.streamE
  rw [show min n 20 - j = 0 by omega]
  show ((⟨#[]⟩ : ByteArray).toList == (⟨#[]⟩ : ByteArray).toList) = true
  simp
theorem KcodeStream_law (ad : Addr) (n cap : Nat) (q : Nat → Nat → Int)  (w : World) (hr : K.Rows ad n q w) : Calls Try.prog 8 #[.slice (some ad) n cap] w fun e w' => e = .returned (.bool true) ∧ Bel w w' := by
  refine E.enter (n := 83) (S := fun _ => False) Try.func8 rfl rfl (by kernel_rfl) (hr.hp) ?_
  refine E.C.seq ?_
  refine E.C.region ?_
  refine E.G.op (.bool false) (fun w => by kernel_rfl) (by kernel_rfl) ?_
  refine E.To.code ?_
  refine E.C.seq ?_
  refine E.C.region ?_
  refine E.G.call (.bool true) (fun w h => sanity_ok w) (fun w _ => by kernel_rfl) (by kernel_rfl) ?_
  refine E.G.op (.bool true) (fun w => by kernel_rfl) (by kernel_rfl) ?_
  refine E.To.code ?_
  refine E.C.seq ?_
  refine E.C.region ?_
  refine E.G.op (.string (⟨#[]⟩ : ByteArray)) (fun w => by kernel_rfl) (by kernel_rfl) ?_
  refine E.To.code ?_
  refine E.C.seq ?_
  refine E.C.seq ?_
  refine E.C.region ?_
  refine E.G.op (.int .i64 0) (fun w => by kernel_rfl) (by kernel_rfl) ?_
  refine E.To.code ?_
  refine E.C.block ?_
  refine E.C.loop (I := Nat) (fun k => 20 - k) (fun k => k ≤ n ∧ k ≤ 20) (fun k => [(0, .slice (some ad) n cap), (2, .bool false), (3, .bool true), (4, .string (K.cat q k)), (5, .int .i64 ((k : Nat) : Int))]) (fun _ => fun w => K.Rows ad n q w) (fun _ => []) 0 (by omega) ⟨by kernel_rfl, by kernel_rfl⟩ (List.Sublist.refl _) (fun _ h => h) (fun k hk1 => ?_)
  refine E.C.seq ?_
  refine E.C.seq ?_
  refine E.C.region ?_
  refine E.G.op (.int .i64 ((k : Nat) : Int)) (fun w => by kernel_rfl) (by kernel_rfl) ?_
  refine E.G.op (.slice (some ad) n cap) (fun w => by kernel_rfl) (by kernel_rfl) ?_
  refine E.G.op (.int .i64 ((n : Nat) : Int)) (fun w => by kernel_rfl) (by kernel_rfl) ?_
  refine E.G.op (.bool (decide (((k : Nat) : Int) < ((n : Nat) : Int)))) (fun w => by kernel_rfl) (by kernel_rfl) ?_
  refine E.G.op (.bool (decide (((k : Nat) : Int) < ((n : Nat) : Int)))) (fun w => by kernel_rfl) (by kernel_rfl) ?_
  refine E.G.cut 3 [(0, .slice (some ad) n cap), (2, .bool false), (3, .bool true), (4, .string (K.cat q k)), (5, .int .i64 ((k : Nat) : Int)), (12, .int .i64 ((k : Nat) : Int)), (13, .slice (some ad) n cap), (14, .int .i64 ((n : Nat) : Int)), (15, .bool (decide (((k : Nat) : Int) < ((n : Nat) : Int)))), (16, .bool (decide (((k : Nat) : Int) < ((n : Nat) : Int)))), (19, .bool ((decide (((k : Nat) : Int) < ((n : Nat) : Int))) && (decide (((k : Nat) : Int) < 20))))] (fun w => K.Rows ad n q w) [] ?_ ?_
  · generalize hc1 : (decide (((k : Nat) : Int) < ((n : Nat) : Int))) = b2
    cases b2
    · skip
      refine E.G.skip (by kernel_rfl) (by kernel_rfl) ?_
      refine E.G.skip (by kernel_rfl) (by kernel_rfl) ?_
      refine E.G.op (.bool false) (fun w => by kernel_rfl) (by kernel_rfl) ?_
      exact E.G.end_pst ⟨by kernel_rfl, by kernel_rfl⟩ (List.Sublist.refl _) (fun _ h => h)
    · skip
      refine E.G.op (.int .i64 ((k : Nat) : Int)) (fun w => by kernel_rfl) (by kernel_rfl) ?_
      refine E.G.op (.bool (decide (((k : Nat) : Int) < 20))) (fun w => by kernel_rfl) (by kernel_rfl) ?_
      refine E.G.op (.bool (decide (((k : Nat) : Int) < 20))) (fun w => by kernel_rfl) (by kernel_rfl) ?_
      exact E.G.end_pst ⟨by kernel_rfl, by kernel_rfl⟩ (List.Sublist.refl _) (fun _ h => h)
  refine E.To.code ?_
  refine E.C.cond ((decide (((k : Nat) : Int) < ((n : Nat) : Int))) && (decide (((k : Nat) : Int) < 20))) (by kernel_rfl) (by kernel_rfl) (fun hc3 => ?_) (fun hc3 => ?_)
  · skip
    refine E.C.skip (E.To.code ?_)
    refine E.C.seq ?_
    refine E.C.block ?_
    refine E.C.seq ?_
    refine E.C.region ?_
    refine E.G.op (.slice (some ad) n cap) (fun w => by kernel_rfl) (by kernel_rfl) ?_
    refine E.G.op (.int .i64 ((k : Nat) : Int)) (fun w => by kernel_rfl) (by kernel_rfl) ?_
    refine E.G.val (.pointer (some (ad.add (k * 5)))) (by kernel_rfl) (fun w h => E.idxSA (e := 35) ad n cap 5 .i64 k (by kernel_rfl) (by kernel_rfl) (by kernel_rfl) (by kernel_rfl) (by ((try simp only [Bool.and_eq_true, Bool.and_eq_false_iff, decide_eq_true_eq, decide_eq_false_iff_not] at *); omega)) w) ?_
    refine E.G.val (.agg #[.int .i64 (q k 0), .int .i64 (q k 1), .int .i64 (q k 2), .int .i64 (q k 3), .int .i64 (q k 4)]) (by kernel_rfl) (fun w h => K.load5 (n := 0) h.x (k := k) (by kernel_rfl) (by ((try simp only [Bool.and_eq_true, Bool.and_eq_false_iff, decide_eq_true_eq, decide_eq_false_iff_not] at *); omega))) ?_
    refine E.G.call (.agg #[.int .i64 (((R2.Made (q k 0) (q k 1) (q k 2) (q k 3) (q k 4))).op), .int .i64 (((R2.Made (q k 0) (q k 1) (q k 2) (q k 3) (q k 4))).d), .int .i64 (((R2.Made (q k 0) (q k 1) (q k 2) (q k 3) (q k 4))).s), .int .i64 (((R2.Made (q k 0) (q k 1) (q k 2) (q k 3) (q k 4))).ix), .int .i64 (((R2.Made (q k 0) (q k 1) (q k 2) (q k 3) (q k 4))).sc), .int .u32 (((R2.Made (q k 0) (q k 1) (q k 2) (q k 3) (q k 4))).imm), .int .i64 (((R2.Made (q k 0) (q k 1) (q k 2) (q k 3) (q k 4))).sz)]) (fun w h => R2_Made (q k 0) (q k 1) (q k 2) (q k 3) (q k 4) w) (fun w _ => by kernel_rfl) (by kernel_rfl) ?_
    refine E.G.call (.tuple #[.string (K.bytes ((R2.Made (q k 0) (q k 1) (q k 2) (q k 3) (q k 4)))), .int .i64 0]) (fun w h => Encode_g ((R2.Made (q k 0) (q k 1) (q k 2) (q k 3) (q k 4))) (K.made_good _ _ _ _ _) w) (fun w _ => by kernel_rfl) (by kernel_rfl) ?_
    refine E.G.op (.tuple #[.string (K.bytes ((R2.Made (q k 0) (q k 1) (q k 2) (q k 3) (q k 4)))), .int .i64 0]) (fun w => by kernel_rfl) (by kernel_rfl) ?_
    refine E.G.op (.string (K.bytes ((R2.Made (q k 0) (q k 1) (q k 2) (q k 3) (q k 4))))) (fun w => by kernel_rfl) (by kernel_rfl) ?_
    refine E.G.op (.int .i64 0) (fun w => by kernel_rfl) (by kernel_rfl) ?_
    refine E.G.op (.string (K.bytes ((R2.Made (q k 0) (q k 1) (q k 2) (q k 3) (q k 4))))) (fun w => by kernel_rfl) (by kernel_rfl) ?_
    refine E.G.op (.int .i64 0) (fun w => by kernel_rfl) (by kernel_rfl) ?_
    refine E.To.code ?_
    refine E.C.seq ?_
    refine E.C.seq ?_
    refine E.C.region ?_
    refine E.G.op (.int .i64 0) (fun w => by kernel_rfl) (by kernel_rfl) ?_
    refine E.G.op (.bool false) (fun w => by kernel_rfl) (by kernel_rfl) ?_
    refine E.To.code ?_
    refine E.C.condF (by kernel_rfl) (by kernel_rfl) ?_
    refine E.C.skip (E.To.code ?_)
    refine E.C.region ?_
    refine E.G.op (.string (K.cat q k)) (fun w => by kernel_rfl) (by kernel_rfl) ?_
    refine E.G.op (.string (K.bytes ((R2.Made (q k 0) (q k 1) (q k 2) (q k 3) (q k 4))))) (fun w => by kernel_rfl) (by kernel_rfl) ?_
    refine E.G.val (.string ((K.cat q k) ++ (K.bytes ((R2.Made (q k 0) (q k 1) (q k 2) (q k 3) (q k 4)))))) (by kernel_rfl) (fun w h => E.cat (K.cat q k) (K.bytes ((R2.Made (q k 0) (q k 1) (q k 2) (q k 3) (q k 4)))) (by kernel_rfl) (by kernel_rfl) (by have h1 := K.cat_len q k; have h2 := K.bytes_len (K.made_good (q k 0) (q k 1) (q k 2) (q k 3) (q k 4)); omega) w) ?_
    refine E.G.op (.string ((K.cat q k) ++ (K.bytes ((R2.Made (q k 0) (q k 1) (q k 2) (q k 3) (q k 4)))))) (fun w => by kernel_rfl) (by kernel_rfl) ?_
    refine E.P.nb (E.To.code ?_)
    refine E.C.region ?_
    refine E.G.op (.int .i64 ((k : Nat) : Int)) (fun w => by kernel_rfl) (by kernel_rfl) ?_
    refine E.G.val (.int .i64 ((k + 1 : Nat) : Int)) (by kernel_rfl) (fun w h => E.run_as (a := .int .i64 (IntKind.wrap .i64 (((k : Nat) : Int) + 1))) (by kernel_rfl) (by rw [K.w64 _ (by omega) (by omega)]; rfl)) ?_
    refine E.G.op (.int .i64 ((k + 1 : Nat) : Int)) (fun w => by kernel_rfl) (by kernel_rfl) ?_
    exact E.To.round (k + 1) (by ((try simp only [Bool.and_eq_true, Bool.and_eq_false_iff, decide_eq_true_eq, decide_eq_false_iff_not] at *); omega)) (by ((try simp only [Bool.and_eq_true, Bool.and_eq_false_iff, decide_eq_true_eq, decide_eq_false_iff_not] at *); omega)) ⟨by kernel_rfl, by kernel_rfl⟩ (List.Sublist.refl _) (fun _ h => h)
  · skip
    refine E.C.exit (E.P.et (E.P.et (E.P.eh (E.To.code ?_))))
    refine E.C.seq ?_
    refine E.C.seq ?_
    refine E.C.region ?_
    refine E.G.op (.int .i64 0) (fun w => by kernel_rfl) (by kernel_rfl) ?_
    refine E.To.code ?_
    refine E.C.block ?_
    refine E.C.loop (I := Nat) (fun j => 20 - j) (fun j => j ≤ n ∧ j ≤ 20) (fun j => [(0, .slice (some ad) n cap), (2, .bool false), (3, .bool true), (4, .string (K.tl q j (min n 20 - j))), (8, .int .i64 ((j : Nat) : Int))]) (fun _ => fun w => K.Rows ad n q w) (fun _ => []) 0 (by omega) (by rw [show K.cat q k = K.tl q 0 (min n 20 - 0) by rw [show min n 20 - 0 = k by ((try simp only [Bool.and_eq_true, Bool.and_eq_false_iff, decide_eq_true_eq, decide_eq_false_iff_not] at *); omega)]; exact K.cat_tl q k]; exact ⟨by kernel_rfl, by kernel_rfl⟩) (List.Sublist.refl _) (fun _ h => h) (fun j hk2 => ?_)
    refine E.C.seq ?_
    refine E.C.seq ?_
    refine E.C.region ?_
    refine E.G.op (.int .i64 ((j : Nat) : Int)) (fun w => by kernel_rfl) (by kernel_rfl) ?_
    refine E.G.op (.slice (some ad) n cap) (fun w => by kernel_rfl) (by kernel_rfl) ?_
    refine E.G.op (.int .i64 ((n : Nat) : Int)) (fun w => by kernel_rfl) (by kernel_rfl) ?_
    refine E.G.op (.bool (decide (((j : Nat) : Int) < ((n : Nat) : Int)))) (fun w => by kernel_rfl) (by kernel_rfl) ?_
    refine E.G.op (.bool (decide (((j : Nat) : Int) < ((n : Nat) : Int)))) (fun w => by kernel_rfl) (by kernel_rfl) ?_
    refine E.G.cut 3 [(0, .slice (some ad) n cap), (2, .bool false), (3, .bool true), (4, .string (K.tl q j (min n 20 - j))), (8, .int .i64 ((j : Nat) : Int)), (36, .int .i64 ((j : Nat) : Int)), (37, .slice (some ad) n cap), (38, .int .i64 ((n : Nat) : Int)), (39, .bool (decide (((j : Nat) : Int) < ((n : Nat) : Int)))), (40, .bool (decide (((j : Nat) : Int) < ((n : Nat) : Int)))), (43, .bool ((decide (((j : Nat) : Int) < ((n : Nat) : Int))) && (decide (((j : Nat) : Int) < 20))))] (fun w => K.Rows ad n q w) [] ?_ ?_
    · generalize hc4 : (decide (((j : Nat) : Int) < ((n : Nat) : Int))) = b5
      cases b5
      · skip
        refine E.G.skip (by kernel_rfl) (by kernel_rfl) ?_
        refine E.G.skip (by kernel_rfl) (by kernel_rfl) ?_
        refine E.G.op (.bool false) (fun w => by kernel_rfl) (by kernel_rfl) ?_
        exact E.G.end_pst ⟨by kernel_rfl, by kernel_rfl⟩ (List.Sublist.refl _) (fun _ h => h)
      · skip
        refine E.G.op (.int .i64 ((j : Nat) : Int)) (fun w => by kernel_rfl) (by kernel_rfl) ?_
        refine E.G.op (.bool (decide (((j : Nat) : Int) < 20))) (fun w => by kernel_rfl) (by kernel_rfl) ?_
        refine E.G.op (.bool (decide (((j : Nat) : Int) < 20))) (fun w => by kernel_rfl) (by kernel_rfl) ?_
        exact E.G.end_pst ⟨by kernel_rfl, by kernel_rfl⟩ (List.Sublist.refl _) (fun _ h => h)
    refine E.To.code ?_
    refine E.C.cond ((decide (((j : Nat) : Int) < ((n : Nat) : Int))) && (decide (((j : Nat) : Int) < 20))) (by kernel_rfl) (by kernel_rfl) (fun hc6 => ?_) (fun hc6 => ?_)
    · skip
      refine E.C.skip (E.To.code ?_)
      refine E.C.seq ?_
      refine E.C.block ?_
      refine E.C.seq ?_
      refine E.C.region ?_
      refine E.G.op (.string (K.tl q j (min n 20 - j))) (fun w => by kernel_rfl) (by kernel_rfl) ?_
      refine E.G.call (.tuple #[.agg #[.int .i64 (((R2.Made (q j 0) (q j 1) (q j 2) (q j 3) (q j 4))).op), .int .i64 (((R2.Made (q j 0) (q j 1) (q j 2) (q j 3) (q j 4))).d), .int .i64 (((R2.Made (q j 0) (q j 1) (q j 2) (q j 3) (q j 4))).s), .int .i64 (((R2.Made (q j 0) (q j 1) (q j 2) (q j 3) (q j 4))).ix), .int .i64 (((R2.Made (q j 0) (q j 1) (q j 2) (q j 3) (q j 4))).sc), .int .u32 (((R2.Made (q j 0) (q j 1) (q j 2) (q j 3) (q j 4))).imm), .int .i64 (((R2.Made (q j 0) (q j 1) (q j 2) (q j 3) (q j 4))).sz)], .int .i64 0]) (fun w h => K.dec_tl q (j := j) (n := n) (by ((try simp only [Bool.and_eq_true, Bool.and_eq_false_iff, decide_eq_true_eq, decide_eq_false_iff_not] at *); omega)) w) (fun w _ => by kernel_rfl) (by kernel_rfl) ?_
      refine E.G.op (.tuple #[.agg #[.int .i64 (((R2.Made (q j 0) (q j 1) (q j 2) (q j 3) (q j 4))).op), .int .i64 (((R2.Made (q j 0) (q j 1) (q j 2) (q j 3) (q j 4))).d), .int .i64 (((R2.Made (q j 0) (q j 1) (q j 2) (q j 3) (q j 4))).s), .int .i64 (((R2.Made (q j 0) (q j 1) (q j 2) (q j 3) (q j 4))).ix), .int .i64 (((R2.Made (q j 0) (q j 1) (q j 2) (q j 3) (q j 4))).sc), .int .u32 (((R2.Made (q j 0) (q j 1) (q j 2) (q j 3) (q j 4))).imm), .int .i64 (((R2.Made (q j 0) (q j 1) (q j 2) (q j 3) (q j 4))).sz)], .int .i64 0]) (fun w => by kernel_rfl) (by kernel_rfl) ?_
      refine E.G.op (.agg #[.int .i64 (((R2.Made (q j 0) (q j 1) (q j 2) (q j 3) (q j 4))).op), .int .i64 (((R2.Made (q j 0) (q j 1) (q j 2) (q j 3) (q j 4))).d), .int .i64 (((R2.Made (q j 0) (q j 1) (q j 2) (q j 3) (q j 4))).s), .int .i64 (((R2.Made (q j 0) (q j 1) (q j 2) (q j 3) (q j 4))).ix), .int .i64 (((R2.Made (q j 0) (q j 1) (q j 2) (q j 3) (q j 4))).sc), .int .u32 (((R2.Made (q j 0) (q j 1) (q j 2) (q j 3) (q j 4))).imm), .int .i64 (((R2.Made (q j 0) (q j 1) (q j 2) (q j 3) (q j 4))).sz)]) (fun w => by kernel_rfl) (by kernel_rfl) ?_
      refine E.G.op (.int .i64 0) (fun w => by kernel_rfl) (by kernel_rfl) ?_
      refine E.G.new (fun g => .pointer (some ⟨g, 0, none⟩)) [.int .i64 0, .int .i64 0, .int .i64 0, .int .i64 0, .int .i64 0, .int .u32 0, .int .i64 0] 27 (fun w => by kernel_rfl) (by kernel_rfl) (fun g7 => ?_)
      refine E.G.store 0 [.int .i64 (((R2.Made (q j 0) (q j 1) (q j 2) (q j 3) (q j 4))).op), .int .i64 (((R2.Made (q j 0) (q j 1) (q j 2) (q j 3) (q j 4))).d), .int .i64 (((R2.Made (q j 0) (q j 1) (q j 2) (q j 3) (q j 4))).s), .int .i64 (((R2.Made (q j 0) (q j 1) (q j 2) (q j 3) (q j 4))).ix), .int .i64 (((R2.Made (q j 0) (q j 1) (q j 2) (q j 3) (q j 4))).sc), .int .u32 (((R2.Made (q j 0) (q j 1) (q j 2) (q j 3) (q j 4))).imm), .int .i64 (((R2.Made (q j 0) (q j 1) (q j 2) (q j 3) (q j 4))).sz)] rfl rfl (by kernel_rfl) (by kernel_rfl) ?_
      refine E.G.op (.int .i64 0) (fun w => by kernel_rfl) (by kernel_rfl) ?_
      refine E.To.code ?_
      refine E.C.seq ?_
      refine E.C.seq ?_
      refine E.C.quiet (by kernel_rfl) (by kernel_rfl) ?_
      refine E.W.op (.int .i64 0) (fun w => by kernel_rfl) (by kernel_rfl) ?_
      refine E.W.op (.bool false) (fun w => by kernel_rfl) (by kernel_rfl) ?_
      refine E.W.op (.bool false) (fun w => by kernel_rfl) (by kernel_rfl) ?_
      refine E.W.val (.agg #[.int .i64 (((R2.Made (q j 0) (q j 1) (q j 2) (q j 3) (q j 4))).op), .int .i64 (((R2.Made (q j 0) (q j 1) (q j 2) (q j 3) (q j 4))).d), .int .i64 (((R2.Made (q j 0) (q j 1) (q j 2) (q j 3) (q j 4))).s), .int .i64 (((R2.Made (q j 0) (q j 1) (q j 2) (q j 3) (q j 4))).ix), .int .i64 (((R2.Made (q j 0) (q j 1) (q j 2) (q j 3) (q j 4))).sc), .int .u32 (((R2.Made (q j 0) (q j 1) (q j 2) (q j 3) (q j 4))).imm), .int .i64 (((R2.Made (q j 0) (q j 1) (q j 2) (q j 3) (q j 4))).sz)]) (by kernel_rfl) (fun w h => E.run_load h 0 rfl rfl (by kernel_rfl)) ?_
      refine E.W.op (.slice (some ad) n cap) (fun w => by kernel_rfl) (by kernel_rfl) ?_
      refine E.W.op (.int .i64 ((j : Nat) : Int)) (fun w => by kernel_rfl) (by kernel_rfl) ?_
      refine E.W.val (.pointer (some (ad.add (j * 5)))) (by kernel_rfl) (fun w h => E.idxSA (e := 35) ad n cap 5 .i64 j (by kernel_rfl) (by kernel_rfl) (by kernel_rfl) (by kernel_rfl) (by ((try simp only [Bool.and_eq_true, Bool.and_eq_false_iff, decide_eq_true_eq, decide_eq_false_iff_not] at *); omega)) w) ?_
      refine E.W.val (.agg #[.int .i64 (q j 0), .int .i64 (q j 1), .int .i64 (q j 2), .int .i64 (q j 3), .int .i64 (q j 4)]) (by kernel_rfl) (fun w h => K.load5 (n := 0) h.x (k := j) (by kernel_rfl) (by ((try simp only [Bool.and_eq_true, Bool.and_eq_false_iff, decide_eq_true_eq, decide_eq_false_iff_not] at *); omega))) ?_
      refine E.W.call (.agg #[.int .i64 (((R2.Made (q j 0) (q j 1) (q j 2) (q j 3) (q j 4))).op), .int .i64 (((R2.Made (q j 0) (q j 1) (q j 2) (q j 3) (q j 4))).d), .int .i64 (((R2.Made (q j 0) (q j 1) (q j 2) (q j 3) (q j 4))).s), .int .i64 (((R2.Made (q j 0) (q j 1) (q j 2) (q j 3) (q j 4))).ix), .int .i64 (((R2.Made (q j 0) (q j 1) (q j 2) (q j 3) (q j 4))).sc), .int .u32 (((R2.Made (q j 0) (q j 1) (q j 2) (q j 3) (q j 4))).imm), .int .i64 (((R2.Made (q j 0) (q j 1) (q j 2) (q j 3) (q j 4))).sz)]) (fun w h => R2_Made (q j 0) (q j 1) (q j 2) (q j 3) (q j 4) w) (fun w _ => by kernel_rfl) (by kernel_rfl) ?_
      refine E.W.val (.bool (!((((R2.Made (q j 0) (q j 1) (q j 2) (q j 3) (q j 4))).op == ((R2.Made (q j 0) (q j 1) (q j 2) (q j 3) (q j 4))).op) && (((R2.Made (q j 0) (q j 1) (q j 2) (q j 3) (q j 4))).d == ((R2.Made (q j 0) (q j 1) (q j 2) (q j 3) (q j 4))).d) && (((R2.Made (q j 0) (q j 1) (q j 2) (q j 3) (q j 4))).s == ((R2.Made (q j 0) (q j 1) (q j 2) (q j 3) (q j 4))).s) && (((R2.Made (q j 0) (q j 1) (q j 2) (q j 3) (q j 4))).ix == ((R2.Made (q j 0) (q j 1) (q j 2) (q j 3) (q j 4))).ix) && (((R2.Made (q j 0) (q j 1) (q j 2) (q j 3) (q j 4))).sc == ((R2.Made (q j 0) (q j 1) (q j 2) (q j 3) (q j 4))).sc) && (((R2.Made (q j 0) (q j 1) (q j 2) (q j 3) (q j 4))).imm == ((R2.Made (q j 0) (q j 1) (q j 2) (q j 3) (q j 4))).imm) && (((R2.Made (q j 0) (q j 1) (q j 2) (q j 3) (q j 4))).sz == ((R2.Made (q j 0) (q j 1) (q j 2) (q j 3) (q j 4))).sz)))) (by kernel_rfl) (fun w h => E.api_KIns_neq (by kernel_rfl) (by kernel_rfl)) ?_
      refine E.W.op (.bool (!((((R2.Made (q j 0) (q j 1) (q j 2) (q j 3) (q j 4))).op == ((R2.Made (q j 0) (q j 1) (q j 2) (q j 3) (q j 4))).op) && (((R2.Made (q j 0) (q j 1) (q j 2) (q j 3) (q j 4))).d == ((R2.Made (q j 0) (q j 1) (q j 2) (q j 3) (q j 4))).d) && (((R2.Made (q j 0) (q j 1) (q j 2) (q j 3) (q j 4))).s == ((R2.Made (q j 0) (q j 1) (q j 2) (q j 3) (q j 4))).s) && (((R2.Made (q j 0) (q j 1) (q j 2) (q j 3) (q j 4))).ix == ((R2.Made (q j 0) (q j 1) (q j 2) (q j 3) (q j 4))).ix) && (((R2.Made (q j 0) (q j 1) (q j 2) (q j 3) (q j 4))).sc == ((R2.Made (q j 0) (q j 1) (q j 2) (q j 3) (q j 4))).sc) && (((R2.Made (q j 0) (q j 1) (q j 2) (q j 3) (q j 4))).imm == ((R2.Made (q j 0) (q j 1) (q j 2) (q j 3) (q j 4))).imm) && (((R2.Made (q j 0) (q j 1) (q j 2) (q j 3) (q j 4))).sz == ((R2.Made (q j 0) (q j 1) (q j 2) (q j 3) (q j 4))).sz)))) (fun w => by kernel_rfl) (by kernel_rfl) ?_
      refine E.W.op (.bool (!((((R2.Made (q j 0) (q j 1) (q j 2) (q j 3) (q j 4))).op == ((R2.Made (q j 0) (q j 1) (q j 2) (q j 3) (q j 4))).op) && (((R2.Made (q j 0) (q j 1) (q j 2) (q j 3) (q j 4))).d == ((R2.Made (q j 0) (q j 1) (q j 2) (q j 3) (q j 4))).d) && (((R2.Made (q j 0) (q j 1) (q j 2) (q j 3) (q j 4))).s == ((R2.Made (q j 0) (q j 1) (q j 2) (q j 3) (q j 4))).s) && (((R2.Made (q j 0) (q j 1) (q j 2) (q j 3) (q j 4))).ix == ((R2.Made (q j 0) (q j 1) (q j 2) (q j 3) (q j 4))).ix) && (((R2.Made (q j 0) (q j 1) (q j 2) (q j 3) (q j 4))).sc == ((R2.Made (q j 0) (q j 1) (q j 2) (q j 3) (q j 4))).sc) && (((R2.Made (q j 0) (q j 1) (q j 2) (q j 3) (q j 4))).imm == ((R2.Made (q j 0) (q j 1) (q j 2) (q j 3) (q j 4))).imm) && (((R2.Made (q j 0) (q j 1) (q j 2) (q j 3) (q j 4))).sz == ((R2.Made (q j 0) (q j 1) (q j 2) (q j 3) (q j 4))).sz)))) (fun w => by kernel_rfl) (by kernel_rfl) ?_
      refine E.W.cut 4 [(0, .slice (some ad) n cap), (2, .bool false), (3, .bool true), (4, .string (K.tl q j (min n 20 - j))), (8, .int .i64 ((j : Nat) : Int)), (9, .pointer (some ⟨g7, 0, none⟩)), (10, .int .i64 0), (36, .int .i64 ((j : Nat) : Int)), (37, .slice (some ad) n cap), (38, .int .i64 ((n : Nat) : Int)), (39, .bool (decide (((j : Nat) : Int) < ((n : Nat) : Int)))), (40, .bool (decide (((j : Nat) : Int) < ((n : Nat) : Int)))), (43, .bool ((decide (((j : Nat) : Int) < ((n : Nat) : Int))) && (decide (((j : Nat) : Int) < 20)))), (46, .tuple #[.agg #[.int .i64 (((R2.Made (q j 0) (q j 1) (q j 2) (q j 3) (q j 4))).op), .int .i64 (((R2.Made (q j 0) (q j 1) (q j 2) (q j 3) (q j 4))).d), .int .i64 (((R2.Made (q j 0) (q j 1) (q j 2) (q j 3) (q j 4))).s), .int .i64 (((R2.Made (q j 0) (q j 1) (q j 2) (q j 3) (q j 4))).ix), .int .i64 (((R2.Made (q j 0) (q j 1) (q j 2) (q j 3) (q j 4))).sc), .int .u32 (((R2.Made (q j 0) (q j 1) (q j 2) (q j 3) (q j 4))).imm), .int .i64 (((R2.Made (q j 0) (q j 1) (q j 2) (q j 3) (q j 4))).sz)], .int .i64 0]), (47, .string (K.tl q j (min n 20 - j))), (48, .tuple #[.agg #[.int .i64 (((R2.Made (q j 0) (q j 1) (q j 2) (q j 3) (q j 4))).op), .int .i64 (((R2.Made (q j 0) (q j 1) (q j 2) (q j 3) (q j 4))).d), .int .i64 (((R2.Made (q j 0) (q j 1) (q j 2) (q j 3) (q j 4))).s), .int .i64 (((R2.Made (q j 0) (q j 1) (q j 2) (q j 3) (q j 4))).ix), .int .i64 (((R2.Made (q j 0) (q j 1) (q j 2) (q j 3) (q j 4))).sc), .int .u32 (((R2.Made (q j 0) (q j 1) (q j 2) (q j 3) (q j 4))).imm), .int .i64 (((R2.Made (q j 0) (q j 1) (q j 2) (q j 3) (q j 4))).sz)], .int .i64 0]), (49, .agg #[.int .i64 (((R2.Made (q j 0) (q j 1) (q j 2) (q j 3) (q j 4))).op), .int .i64 (((R2.Made (q j 0) (q j 1) (q j 2) (q j 3) (q j 4))).d), .int .i64 (((R2.Made (q j 0) (q j 1) (q j 2) (q j 3) (q j 4))).s), .int .i64 (((R2.Made (q j 0) (q j 1) (q j 2) (q j 3) (q j 4))).ix), .int .i64 (((R2.Made (q j 0) (q j 1) (q j 2) (q j 3) (q j 4))).sc), .int .u32 (((R2.Made (q j 0) (q j 1) (q j 2) (q j 3) (q j 4))).imm), .int .i64 (((R2.Made (q j 0) (q j 1) (q j 2) (q j 3) (q j 4))).sz)]), (50, .int .i64 0), (51, .int .i64 0), (52, .bool false), (53, .bool false), (54, .agg #[.int .i64 (((R2.Made (q j 0) (q j 1) (q j 2) (q j 3) (q j 4))).op), .int .i64 (((R2.Made (q j 0) (q j 1) (q j 2) (q j 3) (q j 4))).d), .int .i64 (((R2.Made (q j 0) (q j 1) (q j 2) (q j 3) (q j 4))).s), .int .i64 (((R2.Made (q j 0) (q j 1) (q j 2) (q j 3) (q j 4))).ix), .int .i64 (((R2.Made (q j 0) (q j 1) (q j 2) (q j 3) (q j 4))).sc), .int .u32 (((R2.Made (q j 0) (q j 1) (q j 2) (q j 3) (q j 4))).imm), .int .i64 (((R2.Made (q j 0) (q j 1) (q j 2) (q j 3) (q j 4))).sz)]), (55, .slice (some ad) n cap), (56, .int .i64 ((j : Nat) : Int)), (57, .pointer (some (ad.add (j * 5)))), (58, .agg #[.int .i64 (q j 0), .int .i64 (q j 1), .int .i64 (q j 2), .int .i64 (q j 3), .int .i64 (q j 4)]), (59, .agg #[.int .i64 (((R2.Made (q j 0) (q j 1) (q j 2) (q j 3) (q j 4))).op), .int .i64 (((R2.Made (q j 0) (q j 1) (q j 2) (q j 3) (q j 4))).d), .int .i64 (((R2.Made (q j 0) (q j 1) (q j 2) (q j 3) (q j 4))).s), .int .i64 (((R2.Made (q j 0) (q j 1) (q j 2) (q j 3) (q j 4))).ix), .int .i64 (((R2.Made (q j 0) (q j 1) (q j 2) (q j 3) (q j 4))).sc), .int .u32 (((R2.Made (q j 0) (q j 1) (q j 2) (q j 3) (q j 4))).imm), .int .i64 (((R2.Made (q j 0) (q j 1) (q j 2) (q j 3) (q j 4))).sz)]), (60, .bool (!((((R2.Made (q j 0) (q j 1) (q j 2) (q j 3) (q j 4))).op == ((R2.Made (q j 0) (q j 1) (q j 2) (q j 3) (q j 4))).op) && (((R2.Made (q j 0) (q j 1) (q j 2) (q j 3) (q j 4))).d == ((R2.Made (q j 0) (q j 1) (q j 2) (q j 3) (q j 4))).d) && (((R2.Made (q j 0) (q j 1) (q j 2) (q j 3) (q j 4))).s == ((R2.Made (q j 0) (q j 1) (q j 2) (q j 3) (q j 4))).s) && (((R2.Made (q j 0) (q j 1) (q j 2) (q j 3) (q j 4))).ix == ((R2.Made (q j 0) (q j 1) (q j 2) (q j 3) (q j 4))).ix) && (((R2.Made (q j 0) (q j 1) (q j 2) (q j 3) (q j 4))).sc == ((R2.Made (q j 0) (q j 1) (q j 2) (q j 3) (q j 4))).sc) && (((R2.Made (q j 0) (q j 1) (q j 2) (q j 3) (q j 4))).imm == ((R2.Made (q j 0) (q j 1) (q j 2) (q j 3) (q j 4))).imm) && (((R2.Made (q j 0) (q j 1) (q j 2) (q j 3) (q j 4))).sz == ((R2.Made (q j 0) (q j 1) (q j 2) (q j 3) (q j 4))).sz)))), (61, .bool (!((((R2.Made (q j 0) (q j 1) (q j 2) (q j 3) (q j 4))).op == ((R2.Made (q j 0) (q j 1) (q j 2) (q j 3) (q j 4))).op) && (((R2.Made (q j 0) (q j 1) (q j 2) (q j 3) (q j 4))).d == ((R2.Made (q j 0) (q j 1) (q j 2) (q j 3) (q j 4))).d) && (((R2.Made (q j 0) (q j 1) (q j 2) (q j 3) (q j 4))).s == ((R2.Made (q j 0) (q j 1) (q j 2) (q j 3) (q j 4))).s) && (((R2.Made (q j 0) (q j 1) (q j 2) (q j 3) (q j 4))).ix == ((R2.Made (q j 0) (q j 1) (q j 2) (q j 3) (q j 4))).ix) && (((R2.Made (q j 0) (q j 1) (q j 2) (q j 3) (q j 4))).sc == ((R2.Made (q j 0) (q j 1) (q j 2) (q j 3) (q j 4))).sc) && (((R2.Made (q j 0) (q j 1) (q j 2) (q j 3) (q j 4))).imm == ((R2.Made (q j 0) (q j 1) (q j 2) (q j 3) (q j 4))).imm) && (((R2.Made (q j 0) (q j 1) (q j 2) (q j 3) (q j 4))).sz == ((R2.Made (q j 0) (q j 1) (q j 2) (q j 3) (q j 4))).sz)))), (62, .bool (!((((R2.Made (q j 0) (q j 1) (q j 2) (q j 3) (q j 4))).op == ((R2.Made (q j 0) (q j 1) (q j 2) (q j 3) (q j 4))).op) && (((R2.Made (q j 0) (q j 1) (q j 2) (q j 3) (q j 4))).d == ((R2.Made (q j 0) (q j 1) (q j 2) (q j 3) (q j 4))).d) && (((R2.Made (q j 0) (q j 1) (q j 2) (q j 3) (q j 4))).s == ((R2.Made (q j 0) (q j 1) (q j 2) (q j 3) (q j 4))).s) && (((R2.Made (q j 0) (q j 1) (q j 2) (q j 3) (q j 4))).ix == ((R2.Made (q j 0) (q j 1) (q j 2) (q j 3) (q j 4))).ix) && (((R2.Made (q j 0) (q j 1) (q j 2) (q j 3) (q j 4))).sc == ((R2.Made (q j 0) (q j 1) (q j 2) (q j 3) (q j 4))).sc) && (((R2.Made (q j 0) (q j 1) (q j 2) (q j 3) (q j 4))).imm == ((R2.Made (q j 0) (q j 1) (q j 2) (q j 3) (q j 4))).imm) && (((R2.Made (q j 0) (q j 1) (q j 2) (q j 3) (q j 4))).sz == ((R2.Made (q j 0) (q j 1) (q j 2) (q j 3) (q j 4))).sz)))), (66, .bool ((!((((R2.Made (q j 0) (q j 1) (q j 2) (q j 3) (q j 4))).op == ((R2.Made (q j 0) (q j 1) (q j 2) (q j 3) (q j 4))).op) && (((R2.Made (q j 0) (q j 1) (q j 2) (q j 3) (q j 4))).d == ((R2.Made (q j 0) (q j 1) (q j 2) (q j 3) (q j 4))).d) && (((R2.Made (q j 0) (q j 1) (q j 2) (q j 3) (q j 4))).s == ((R2.Made (q j 0) (q j 1) (q j 2) (q j 3) (q j 4))).s) && (((R2.Made (q j 0) (q j 1) (q j 2) (q j 3) (q j 4))).ix == ((R2.Made (q j 0) (q j 1) (q j 2) (q j 3) (q j 4))).ix) && (((R2.Made (q j 0) (q j 1) (q j 2) (q j 3) (q j 4))).sc == ((R2.Made (q j 0) (q j 1) (q j 2) (q j 3) (q j 4))).sc) && (((R2.Made (q j 0) (q j 1) (q j 2) (q j 3) (q j 4))).imm == ((R2.Made (q j 0) (q j 1) (q j 2) (q j 3) (q j 4))).imm) && (((R2.Made (q j 0) (q j 1) (q j 2) (q j 3) (q j 4))).sz == ((R2.Made (q j 0) (q j 1) (q j 2) (q j 3) (q j 4))).sz))) || (decide ((((R2.Made (q j 0) (q j 1) (q j 2) (q j 3) (q j 4))).sz) < 1))))] ?_ ?_
      · generalize hc8 : (!((((R2.Made (q j 0) (q j 1) (q j 2) (q j 3) (q j 4))).op == ((R2.Made (q j 0) (q j 1) (q j 2) (q j 3) (q j 4))).op) && (((R2.Made (q j 0) (q j 1) (q j 2) (q j 3) (q j 4))).d == ((R2.Made (q j 0) (q j 1) (q j 2) (q j 3) (q j 4))).d) && (((R2.Made (q j 0) (q j 1) (q j 2) (q j 3) (q j 4))).s == ((R2.Made (q j 0) (q j 1) (q j 2) (q j 3) (q j 4))).s) && (((R2.Made (q j 0) (q j 1) (q j 2) (q j 3) (q j 4))).ix == ((R2.Made (q j 0) (q j 1) (q j 2) (q j 3) (q j 4))).ix) && (((R2.Made (q j 0) (q j 1) (q j 2) (q j 3) (q j 4))).sc == ((R2.Made (q j 0) (q j 1) (q j 2) (q j 3) (q j 4))).sc) && (((R2.Made (q j 0) (q j 1) (q j 2) (q j 3) (q j 4))).imm == ((R2.Made (q j 0) (q j 1) (q j 2) (q j 3) (q j 4))).imm) && (((R2.Made (q j 0) (q j 1) (q j 2) (q j 3) (q j 4))).sz == ((R2.Made (q j 0) (q j 1) (q j 2) (q j 3) (q j 4))).sz))) = b9
        cases b9
        · skip
          refine E.W.op (.pointer (some ⟨g7, 6, none⟩)) (fun w => by kernel_rfl) (by kernel_rfl) ?_
          refine E.W.val (.int .i64 (((R2.Made (q j 0) (q j 1) (q j 2) (q j 3) (q j 4))).sz)) (by kernel_rfl) (fun w h => E.run_load h 0 rfl rfl (by kernel_rfl)) ?_
          refine E.W.op (.bool (decide ((((R2.Made (q j 0) (q j 1) (q j 2) (q j 3) (q j 4))).sz) < 1))) (fun w => by kernel_rfl) (by kernel_rfl) ?_
          refine E.W.op (.bool (decide ((((R2.Made (q j 0) (q j 1) (q j 2) (q j 3) (q j 4))).sz) < 1))) (fun w => by kernel_rfl) (by kernel_rfl) ?_
          exact E.W.end_cut ⟨by kernel_rfl, by kernel_rfl⟩
        · skip
          refine E.W.skip (by kernel_rfl) (by kernel_rfl) ?_
          refine E.W.skip (by kernel_rfl) (by kernel_rfl) ?_
          refine E.W.skip (by kernel_rfl) (by kernel_rfl) ?_
          refine E.W.op (.bool true) (fun w => by kernel_rfl) (by kernel_rfl) ?_
          exact E.W.end_cut ⟨by kernel_rfl, by kernel_rfl⟩
      refine E.W.op (.bool ((!((((R2.Made (q j 0) (q j 1) (q j 2) (q j 3) (q j 4))).op == ((R2.Made (q j 0) (q j 1) (q j 2) (q j 3) (q j 4))).op) && (((R2.Made (q j 0) (q j 1) (q j 2) (q j 3) (q j 4))).d == ((R2.Made (q j 0) (q j 1) (q j 2) (q j 3) (q j 4))).d) && (((R2.Made (q j 0) (q j 1) (q j 2) (q j 3) (q j 4))).s == ((R2.Made (q j 0) (q j 1) (q j 2) (q j 3) (q j 4))).s) && (((R2.Made (q j 0) (q j 1) (q j 2) (q j 3) (q j 4))).ix == ((R2.Made (q j 0) (q j 1) (q j 2) (q j 3) (q j 4))).ix) && (((R2.Made (q j 0) (q j 1) (q j 2) (q j 3) (q j 4))).sc == ((R2.Made (q j 0) (q j 1) (q j 2) (q j 3) (q j 4))).sc) && (((R2.Made (q j 0) (q j 1) (q j 2) (q j 3) (q j 4))).imm == ((R2.Made (q j 0) (q j 1) (q j 2) (q j 3) (q j 4))).imm) && (((R2.Made (q j 0) (q j 1) (q j 2) (q j 3) (q j 4))).sz == ((R2.Made (q j 0) (q j 1) (q j 2) (q j 3) (q j 4))).sz))) || (decide ((((R2.Made (q j 0) (q j 1) (q j 2) (q j 3) (q j 4))).sz) < 1)))) (fun w => by kernel_rfl) (by kernel_rfl) ?_
      refine E.W.cut 6 [(0, .slice (some ad) n cap), (2, .bool false), (3, .bool true), (4, .string (K.tl q j (min n 20 - j))), (8, .int .i64 ((j : Nat) : Int)), (9, .pointer (some ⟨g7, 0, none⟩)), (10, .int .i64 0), (36, .int .i64 ((j : Nat) : Int)), (37, .slice (some ad) n cap), (38, .int .i64 ((n : Nat) : Int)), (39, .bool (decide (((j : Nat) : Int) < ((n : Nat) : Int)))), (40, .bool (decide (((j : Nat) : Int) < ((n : Nat) : Int)))), (43, .bool ((decide (((j : Nat) : Int) < ((n : Nat) : Int))) && (decide (((j : Nat) : Int) < 20)))), (46, .tuple #[.agg #[.int .i64 (((R2.Made (q j 0) (q j 1) (q j 2) (q j 3) (q j 4))).op), .int .i64 (((R2.Made (q j 0) (q j 1) (q j 2) (q j 3) (q j 4))).d), .int .i64 (((R2.Made (q j 0) (q j 1) (q j 2) (q j 3) (q j 4))).s), .int .i64 (((R2.Made (q j 0) (q j 1) (q j 2) (q j 3) (q j 4))).ix), .int .i64 (((R2.Made (q j 0) (q j 1) (q j 2) (q j 3) (q j 4))).sc), .int .u32 (((R2.Made (q j 0) (q j 1) (q j 2) (q j 3) (q j 4))).imm), .int .i64 (((R2.Made (q j 0) (q j 1) (q j 2) (q j 3) (q j 4))).sz)], .int .i64 0]), (47, .string (K.tl q j (min n 20 - j))), (48, .tuple #[.agg #[.int .i64 (((R2.Made (q j 0) (q j 1) (q j 2) (q j 3) (q j 4))).op), .int .i64 (((R2.Made (q j 0) (q j 1) (q j 2) (q j 3) (q j 4))).d), .int .i64 (((R2.Made (q j 0) (q j 1) (q j 2) (q j 3) (q j 4))).s), .int .i64 (((R2.Made (q j 0) (q j 1) (q j 2) (q j 3) (q j 4))).ix), .int .i64 (((R2.Made (q j 0) (q j 1) (q j 2) (q j 3) (q j 4))).sc), .int .u32 (((R2.Made (q j 0) (q j 1) (q j 2) (q j 3) (q j 4))).imm), .int .i64 (((R2.Made (q j 0) (q j 1) (q j 2) (q j 3) (q j 4))).sz)], .int .i64 0]), (49, .agg #[.int .i64 (((R2.Made (q j 0) (q j 1) (q j 2) (q j 3) (q j 4))).op), .int .i64 (((R2.Made (q j 0) (q j 1) (q j 2) (q j 3) (q j 4))).d), .int .i64 (((R2.Made (q j 0) (q j 1) (q j 2) (q j 3) (q j 4))).s), .int .i64 (((R2.Made (q j 0) (q j 1) (q j 2) (q j 3) (q j 4))).ix), .int .i64 (((R2.Made (q j 0) (q j 1) (q j 2) (q j 3) (q j 4))).sc), .int .u32 (((R2.Made (q j 0) (q j 1) (q j 2) (q j 3) (q j 4))).imm), .int .i64 (((R2.Made (q j 0) (q j 1) (q j 2) (q j 3) (q j 4))).sz)]), (50, .int .i64 0), (51, .int .i64 0), (52, .bool false), (53, .bool false), (54, .agg #[.int .i64 (((R2.Made (q j 0) (q j 1) (q j 2) (q j 3) (q j 4))).op), .int .i64 (((R2.Made (q j 0) (q j 1) (q j 2) (q j 3) (q j 4))).d), .int .i64 (((R2.Made (q j 0) (q j 1) (q j 2) (q j 3) (q j 4))).s), .int .i64 (((R2.Made (q j 0) (q j 1) (q j 2) (q j 3) (q j 4))).ix), .int .i64 (((R2.Made (q j 0) (q j 1) (q j 2) (q j 3) (q j 4))).sc), .int .u32 (((R2.Made (q j 0) (q j 1) (q j 2) (q j 3) (q j 4))).imm), .int .i64 (((R2.Made (q j 0) (q j 1) (q j 2) (q j 3) (q j 4))).sz)]), (55, .slice (some ad) n cap), (56, .int .i64 ((j : Nat) : Int)), (57, .pointer (some (ad.add (j * 5)))), (58, .agg #[.int .i64 (q j 0), .int .i64 (q j 1), .int .i64 (q j 2), .int .i64 (q j 3), .int .i64 (q j 4)]), (59, .agg #[.int .i64 (((R2.Made (q j 0) (q j 1) (q j 2) (q j 3) (q j 4))).op), .int .i64 (((R2.Made (q j 0) (q j 1) (q j 2) (q j 3) (q j 4))).d), .int .i64 (((R2.Made (q j 0) (q j 1) (q j 2) (q j 3) (q j 4))).s), .int .i64 (((R2.Made (q j 0) (q j 1) (q j 2) (q j 3) (q j 4))).ix), .int .i64 (((R2.Made (q j 0) (q j 1) (q j 2) (q j 3) (q j 4))).sc), .int .u32 (((R2.Made (q j 0) (q j 1) (q j 2) (q j 3) (q j 4))).imm), .int .i64 (((R2.Made (q j 0) (q j 1) (q j 2) (q j 3) (q j 4))).sz)]), (60, .bool (!((((R2.Made (q j 0) (q j 1) (q j 2) (q j 3) (q j 4))).op == ((R2.Made (q j 0) (q j 1) (q j 2) (q j 3) (q j 4))).op) && (((R2.Made (q j 0) (q j 1) (q j 2) (q j 3) (q j 4))).d == ((R2.Made (q j 0) (q j 1) (q j 2) (q j 3) (q j 4))).d) && (((R2.Made (q j 0) (q j 1) (q j 2) (q j 3) (q j 4))).s == ((R2.Made (q j 0) (q j 1) (q j 2) (q j 3) (q j 4))).s) && (((R2.Made (q j 0) (q j 1) (q j 2) (q j 3) (q j 4))).ix == ((R2.Made (q j 0) (q j 1) (q j 2) (q j 3) (q j 4))).ix) && (((R2.Made (q j 0) (q j 1) (q j 2) (q j 3) (q j 4))).sc == ((R2.Made (q j 0) (q j 1) (q j 2) (q j 3) (q j 4))).sc) && (((R2.Made (q j 0) (q j 1) (q j 2) (q j 3) (q j 4))).imm == ((R2.Made (q j 0) (q j 1) (q j 2) (q j 3) (q j 4))).imm) && (((R2.Made (q j 0) (q j 1) (q j 2) (q j 3) (q j 4))).sz == ((R2.Made (q j 0) (q j 1) (q j 2) (q j 3) (q j 4))).sz)))), (61, .bool (!((((R2.Made (q j 0) (q j 1) (q j 2) (q j 3) (q j 4))).op == ((R2.Made (q j 0) (q j 1) (q j 2) (q j 3) (q j 4))).op) && (((R2.Made (q j 0) (q j 1) (q j 2) (q j 3) (q j 4))).d == ((R2.Made (q j 0) (q j 1) (q j 2) (q j 3) (q j 4))).d) && (((R2.Made (q j 0) (q j 1) (q j 2) (q j 3) (q j 4))).s == ((R2.Made (q j 0) (q j 1) (q j 2) (q j 3) (q j 4))).s) && (((R2.Made (q j 0) (q j 1) (q j 2) (q j 3) (q j 4))).ix == ((R2.Made (q j 0) (q j 1) (q j 2) (q j 3) (q j 4))).ix) && (((R2.Made (q j 0) (q j 1) (q j 2) (q j 3) (q j 4))).sc == ((R2.Made (q j 0) (q j 1) (q j 2) (q j 3) (q j 4))).sc) && (((R2.Made (q j 0) (q j 1) (q j 2) (q j 3) (q j 4))).imm == ((R2.Made (q j 0) (q j 1) (q j 2) (q j 3) (q j 4))).imm) && (((R2.Made (q j 0) (q j 1) (q j 2) (q j 3) (q j 4))).sz == ((R2.Made (q j 0) (q j 1) (q j 2) (q j 3) (q j 4))).sz)))), (62, .bool (!((((R2.Made (q j 0) (q j 1) (q j 2) (q j 3) (q j 4))).op == ((R2.Made (q j 0) (q j 1) (q j 2) (q j 3) (q j 4))).op) && (((R2.Made (q j 0) (q j 1) (q j 2) (q j 3) (q j 4))).d == ((R2.Made (q j 0) (q j 1) (q j 2) (q j 3) (q j 4))).d) && (((R2.Made (q j 0) (q j 1) (q j 2) (q j 3) (q j 4))).s == ((R2.Made (q j 0) (q j 1) (q j 2) (q j 3) (q j 4))).s) && (((R2.Made (q j 0) (q j 1) (q j 2) (q j 3) (q j 4))).ix == ((R2.Made (q j 0) (q j 1) (q j 2) (q j 3) (q j 4))).ix) && (((R2.Made (q j 0) (q j 1) (q j 2) (q j 3) (q j 4))).sc == ((R2.Made (q j 0) (q j 1) (q j 2) (q j 3) (q j 4))).sc) && (((R2.Made (q j 0) (q j 1) (q j 2) (q j 3) (q j 4))).imm == ((R2.Made (q j 0) (q j 1) (q j 2) (q j 3) (q j 4))).imm) && (((R2.Made (q j 0) (q j 1) (q j 2) (q j 3) (q j 4))).sz == ((R2.Made (q j 0) (q j 1) (q j 2) (q j 3) (q j 4))).sz)))), (66, .bool ((!((((R2.Made (q j 0) (q j 1) (q j 2) (q j 3) (q j 4))).op == ((R2.Made (q j 0) (q j 1) (q j 2) (q j 3) (q j 4))).op) && (((R2.Made (q j 0) (q j 1) (q j 2) (q j 3) (q j 4))).d == ((R2.Made (q j 0) (q j 1) (q j 2) (q j 3) (q j 4))).d) && (((R2.Made (q j 0) (q j 1) (q j 2) (q j 3) (q j 4))).s == ((R2.Made (q j 0) (q j 1) (q j 2) (q j 3) (q j 4))).s) && (((R2.Made (q j 0) (q j 1) (q j 2) (q j 3) (q j 4))).ix == ((R2.Made (q j 0) (q j 1) (q j 2) (q j 3) (q j 4))).ix) && (((R2.Made (q j 0) (q j 1) (q j 2) (q j 3) (q j 4))).sc == ((R2.Made (q j 0) (q j 1) (q j 2) (q j 3) (q j 4))).sc) && (((R2.Made (q j 0) (q j 1) (q j 2) (q j 3) (q j 4))).imm == ((R2.Made (q j 0) (q j 1) (q j 2) (q j 3) (q j 4))).imm) && (((R2.Made (q j 0) (q j 1) (q j 2) (q j 3) (q j 4))).sz == ((R2.Made (q j 0) (q j 1) (q j 2) (q j 3) (q j 4))).sz))) || (decide ((((R2.Made (q j 0) (q j 1) (q j 2) (q j 3) (q j 4))).sz) < 1)))), (67, .bool ((!((((R2.Made (q j 0) (q j 1) (q j 2) (q j 3) (q j 4))).op == ((R2.Made (q j 0) (q j 1) (q j 2) (q j 3) (q j 4))).op) && (((R2.Made (q j 0) (q j 1) (q j 2) (q j 3) (q j 4))).d == ((R2.Made (q j 0) (q j 1) (q j 2) (q j 3) (q j 4))).d) && (((R2.Made (q j 0) (q j 1) (q j 2) (q j 3) (q j 4))).s == ((R2.Made (q j 0) (q j 1) (q j 2) (q j 3) (q j 4))).s) && (((R2.Made (q j 0) (q j 1) (q j 2) (q j 3) (q j 4))).ix == ((R2.Made (q j 0) (q j 1) (q j 2) (q j 3) (q j 4))).ix) && (((R2.Made (q j 0) (q j 1) (q j 2) (q j 3) (q j 4))).sc == ((R2.Made (q j 0) (q j 1) (q j 2) (q j 3) (q j 4))).sc) && (((R2.Made (q j 0) (q j 1) (q j 2) (q j 3) (q j 4))).imm == ((R2.Made (q j 0) (q j 1) (q j 2) (q j 3) (q j 4))).imm) && (((R2.Made (q j 0) (q j 1) (q j 2) (q j 3) (q j 4))).sz == ((R2.Made (q j 0) (q j 1) (q j 2) (q j 3) (q j 4))).sz))) || (decide ((((R2.Made (q j 0) (q j 1) (q j 2) (q j 3) (q j 4))).sz) < 1)))), (73, .bool (((!((((R2.Made (q j 0) (q j 1) (q j 2) (q j 3) (q j 4))).op == ((R2.Made (q j 0) (q j 1) (q j 2) (q j 3) (q j 4))).op) && (((R2.Made (q j 0) (q j 1) (q j 2) (q j 3) (q j 4))).d == ((R2.Made (q j 0) (q j 1) (q j 2) (q j 3) (q j 4))).d) && (((R2.Made (q j 0) (q j 1) (q j 2) (q j 3) (q j 4))).s == ((R2.Made (q j 0) (q j 1) (q j 2) (q j 3) (q j 4))).s) && (((R2.Made (q j 0) (q j 1) (q j 2) (q j 3) (q j 4))).ix == ((R2.Made (q j 0) (q j 1) (q j 2) (q j 3) (q j 4))).ix) && (((R2.Made (q j 0) (q j 1) (q j 2) (q j 3) (q j 4))).sc == ((R2.Made (q j 0) (q j 1) (q j 2) (q j 3) (q j 4))).sc) && (((R2.Made (q j 0) (q j 1) (q j 2) (q j 3) (q j 4))).imm == ((R2.Made (q j 0) (q j 1) (q j 2) (q j 3) (q j 4))).imm) && (((R2.Made (q j 0) (q j 1) (q j 2) (q j 3) (q j 4))).sz == ((R2.Made (q j 0) (q j 1) (q j 2) (q j 3) (q j 4))).sz))) || (decide ((((R2.Made (q j 0) (q j 1) (q j 2) (q j 3) (q j 4))).sz) < 1))) || (decide ((((R2.Made (q j 0) (q j 1) (q j 2) (q j 3) (q j 4))).sz) > (((K.tl q j (min n 20 - j)).size : Nat) : Int)))))] ?_ ?_
      · generalize hc10 : ((!((((R2.Made (q j 0) (q j 1) (q j 2) (q j 3) (q j 4))).op == ((R2.Made (q j 0) (q j 1) (q j 2) (q j 3) (q j 4))).op) && (((R2.Made (q j 0) (q j 1) (q j 2) (q j 3) (q j 4))).d == ((R2.Made (q j 0) (q j 1) (q j 2) (q j 3) (q j 4))).d) && (((R2.Made (q j 0) (q j 1) (q j 2) (q j 3) (q j 4))).s == ((R2.Made (q j 0) (q j 1) (q j 2) (q j 3) (q j 4))).s) && (((R2.Made (q j 0) (q j 1) (q j 2) (q j 3) (q j 4))).ix == ((R2.Made (q j 0) (q j 1) (q j 2) (q j 3) (q j 4))).ix) && (((R2.Made (q j 0) (q j 1) (q j 2) (q j 3) (q j 4))).sc == ((R2.Made (q j 0) (q j 1) (q j 2) (q j 3) (q j 4))).sc) && (((R2.Made (q j 0) (q j 1) (q j 2) (q j 3) (q j 4))).imm == ((R2.Made (q j 0) (q j 1) (q j 2) (q j 3) (q j 4))).imm) && (((R2.Made (q j 0) (q j 1) (q j 2) (q j 3) (q j 4))).sz == ((R2.Made (q j 0) (q j 1) (q j 2) (q j 3) (q j 4))).sz))) || (decide ((((R2.Made (q j 0) (q j 1) (q j 2) (q j 3) (q j 4))).sz) < 1))) = b11
        cases b11
        · skip
          refine E.W.op (.pointer (some ⟨g7, 6, none⟩)) (fun w => by kernel_rfl) (by kernel_rfl) ?_
          refine E.W.val (.int .i64 (((R2.Made (q j 0) (q j 1) (q j 2) (q j 3) (q j 4))).sz)) (by kernel_rfl) (fun w h => E.run_load h 0 rfl rfl (by kernel_rfl)) ?_
          refine E.W.op (.string (K.tl q j (min n 20 - j))) (fun w => by kernel_rfl) (by kernel_rfl) ?_
          refine E.W.op (.int .i64 (((K.tl q j (min n 20 - j)).size : Nat) : Int)) (fun w => by kernel_rfl) (by kernel_rfl) ?_
          refine E.W.op (.bool (decide ((((R2.Made (q j 0) (q j 1) (q j 2) (q j 3) (q j 4))).sz) > (((K.tl q j (min n 20 - j)).size : Nat) : Int)))) (fun w => by kernel_rfl) (by kernel_rfl) ?_
          refine E.W.op (.bool (decide ((((R2.Made (q j 0) (q j 1) (q j 2) (q j 3) (q j 4))).sz) > (((K.tl q j (min n 20 - j)).size : Nat) : Int)))) (fun w => by kernel_rfl) (by kernel_rfl) ?_
          exact E.W.end_cut ⟨by kernel_rfl, by kernel_rfl⟩
        · skip
          refine E.W.skip (by kernel_rfl) (by kernel_rfl) ?_
          refine E.W.skip (by kernel_rfl) (by kernel_rfl) ?_
          refine E.W.skip (by kernel_rfl) (by kernel_rfl) ?_
          refine E.W.skip (by kernel_rfl) (by kernel_rfl) ?_
          refine E.W.skip (by kernel_rfl) (by kernel_rfl) ?_
          refine E.W.op (.bool true) (fun w => by kernel_rfl) (by kernel_rfl) ?_
          exact E.W.end_cut ⟨by kernel_rfl, by kernel_rfl⟩
      refine E.W.done (E.To.code ?_)
      refine E.C.cond (((!((((R2.Made (q j 0) (q j 1) (q j 2) (q j 3) (q j 4))).op == ((R2.Made (q j 0) (q j 1) (q j 2) (q j 3) (q j 4))).op) && (((R2.Made (q j 0) (q j 1) (q j 2) (q j 3) (q j 4))).d == ((R2.Made (q j 0) (q j 1) (q j 2) (q j 3) (q j 4))).d) && (((R2.Made (q j 0) (q j 1) (q j 2) (q j 3) (q j 4))).s == ((R2.Made (q j 0) (q j 1) (q j 2) (q j 3) (q j 4))).s) && (((R2.Made (q j 0) (q j 1) (q j 2) (q j 3) (q j 4))).ix == ((R2.Made (q j 0) (q j 1) (q j 2) (q j 3) (q j 4))).ix) && (((R2.Made (q j 0) (q j 1) (q j 2) (q j 3) (q j 4))).sc == ((R2.Made (q j 0) (q j 1) (q j 2) (q j 3) (q j 4))).sc) && (((R2.Made (q j 0) (q j 1) (q j 2) (q j 3) (q j 4))).imm == ((R2.Made (q j 0) (q j 1) (q j 2) (q j 3) (q j 4))).imm) && (((R2.Made (q j 0) (q j 1) (q j 2) (q j 3) (q j 4))).sz == ((R2.Made (q j 0) (q j 1) (q j 2) (q j 3) (q j 4))).sz))) || (decide ((((R2.Made (q j 0) (q j 1) (q j 2) (q j 3) (q j 4))).sz) < 1))) || (decide ((((R2.Made (q j 0) (q j 1) (q j 2) (q j 3) (q j 4))).sz) > (((K.tl q j (min n 20 - j)).size : Nat) : Int)))) (by kernel_rfl) (by kernel_rfl) (fun hc12 => ?_) (fun hc12 => ?_)
      · skip
        refine E.C.seq ?_
        refine E.C.region ?_
        refine E.G.op (.bool false) (fun w => by kernel_rfl) (by kernel_rfl) ?_
        refine E.To.code ?_
        refine E.C.ret (E.P.rt (E.P.rb (E.P.rt (E.P.rt (E.P.rb (E.P.rt (E.To.body (fn := Try.f8) [.bool false] ?_ ?_)))))))
        · exact ⟨⟨by kernel_rfl, by kernel_rfl⟩, trivial⟩
        · intro w h
          exact absurd ((show K.streamC q j n = true from hc12).symm.trans (K.streamC_false q j n (by ((try simp only [Bool.and_eq_true, Bool.and_eq_false_iff, decide_eq_true_eq, decide_eq_false_iff_not] at *); omega)))) Bool.noConfusion
      · skip
        refine E.C.skip (E.To.code ?_)
        refine E.C.region ?_
        refine E.G.op (.string (K.tl q j (min n 20 - j))) (fun w => by kernel_rfl) (by kernel_rfl) ?_
        refine E.G.op (.pointer (some ⟨g7, 6, none⟩)) (fun w => by kernel_rfl) (by kernel_rfl) ?_
        refine E.G.val (.int .i64 (((R2.Made (q j 0) (q j 1) (q j 2) (q j 3) (q j 4))).sz)) (by kernel_rfl) (fun w h => E.run_load h 0 rfl rfl (by kernel_rfl)) ?_
        refine E.G.val (.string (K.tl q (j + 1) (min n 20 - (j + 1)))) (by kernel_rfl) (fun w h => E.run_as (a := .string ((K.tl q j (min n 20 - j)).extract (((R2.Made (q j 0) (q j 1) (q j 2) (q j 3) (q j 4))).sz).toNat (K.tl q j (min n 20 - j)).size)) (E.slFrom (K.tl q j (min n 20 - j)) .i64 (((R2.Made (q j 0) (q j 1) (q j 2) (q j 3) (q j 4))).sz) (by kernel_rfl) (by kernel_rfl) (by kernel_rfl) (by have hq := K.tl_sz q (j := j) (n := n) (by ((try simp only [Bool.and_eq_true, Bool.and_eq_false_iff, decide_eq_true_eq, decide_eq_false_iff_not] at *); omega)); omega) (by have hq := K.tl_sz q (j := j) (n := n) (by ((try simp only [Bool.and_eq_true, Bool.and_eq_false_iff, decide_eq_true_eq, decide_eq_false_iff_not] at *); omega)); omega) w) (congrArg Value.string (K.tl_drop q (j := j) (n := n) (by ((try simp only [Bool.and_eq_true, Bool.and_eq_false_iff, decide_eq_true_eq, decide_eq_false_iff_not] at *); omega))))) ?_
        refine E.G.op (.string (K.tl q (j + 1) (min n 20 - (j + 1)))) (fun w => by kernel_rfl) (by kernel_rfl) ?_
        refine E.P.nb (E.To.code ?_)
        refine E.C.region ?_
        refine E.G.op (.int .i64 ((j : Nat) : Int)) (fun w => by kernel_rfl) (by kernel_rfl) ?_
        refine E.G.val (.int .i64 ((j + 1 : Nat) : Int)) (by kernel_rfl) (fun w h => E.run_as (a := .int .i64 (IntKind.wrap .i64 (((j : Nat) : Int) + 1))) (by kernel_rfl) (by rw [K.w64 _ (by omega) (by omega)]; rfl)) ?_
        refine E.G.op (.int .i64 ((j + 1 : Nat) : Int)) (fun w => by kernel_rfl) (by kernel_rfl) ?_
        exact E.To.round (j + 1) (by ((try simp only [Bool.and_eq_true, Bool.and_eq_false_iff, decide_eq_true_eq, decide_eq_false_iff_not] at *); omega)) (by ((try simp only [Bool.and_eq_true, Bool.and_eq_false_iff, decide_eq_true_eq, decide_eq_false_iff_not] at *); omega)) ⟨by kernel_rfl, by kernel_rfl⟩ (List.nil_sublist _) (fun _ h => h)
    · skip
      refine E.C.exit (E.P.et (E.P.et (E.P.eh (E.To.code ?_))))
      refine E.C.weak [(2, .bool false), (3, .bool true), (4, .string (K.tl q j (min n 20 - j)))] [] ⟨by kernel_rfl, by kernel_rfl⟩ (List.Sublist.refl _) ?_
      refine E.C.seq ?_
      refine E.C.region ?_
      refine E.G.op (.bool true) (fun w => by kernel_rfl) (by kernel_rfl) ?_
      refine E.G.op (.bool true) (fun w => by kernel_rfl) (by kernel_rfl) ?_
      refine E.G.op (.string (K.tl q j (min n 20 - j))) (fun w => by kernel_rfl) (by kernel_rfl) ?_
      refine E.G.op (.bool ((K.tl q j (min n 20 - j)).toList == (⟨#[]⟩ : ByteArray).toList)) (fun w => by kernel_rfl) (by kernel_rfl) ?_
      refine E.G.op (.bool ((K.tl q j (min n 20 - j)).toList == (⟨#[]⟩ : ByteArray).toList)) (fun w => by kernel_rfl) (by kernel_rfl) ?_
      refine E.G.op (.bool ((K.tl q j (min n 20 - j)).toList == (⟨#[]⟩ : ByteArray).toList)) (fun w => by kernel_rfl) (by kernel_rfl) ?_
      refine E.To.code ?_
      refine E.C.ret (E.To.body (fn := Try.f8) [.bool ((K.tl q j (min n 20 - j)).toList == (⟨#[]⟩ : ByteArray).toList)] ?_ ?_)
      · exact ⟨⟨by kernel_rfl, by kernel_rfl⟩, trivial⟩
      · intro w h
        exact ⟨congrArg (fun b => Ending.returned (.bool b)) (show K.streamE q j n = true from K.streamE_true q j n (by ((try simp only [Bool.and_eq_true, Bool.and_eq_false_iff, decide_eq_true_eq, decide_eq_false_iff_not] at *); omega))), h.ch.bel (fun _ h => h.elim)⟩
def K.streamN  : Bool := ((⟨#[]⟩ : ByteArray).toList == (⟨#[]⟩ : ByteArray).toList)
theorem KcodeStream_nil   (w : World) : Calls Try.prog 8 #[.slice none 0 0] w fun e w' => e = .returned (.bool true) ∧ Bel w w' := by
  refine E.enter (n := 83) (S := fun _ => False) Try.func8 rfl rfl (by kernel_rfl) (E.Hp.start w) ?_
  refine E.C.seq ?_
  refine E.C.region ?_
  refine E.G.op (.bool false) (fun w => by kernel_rfl) (by kernel_rfl) ?_
  refine E.To.code ?_
  refine E.C.seq ?_
  refine E.C.region ?_
  refine E.G.call (.bool true) (fun w h => sanity_ok w) (fun w _ => by kernel_rfl) (by kernel_rfl) ?_
  refine E.G.op (.bool true) (fun w => by kernel_rfl) (by kernel_rfl) ?_
  refine E.To.code ?_
  refine E.C.seq ?_
  refine E.C.region ?_
  refine E.G.op (.string (⟨#[]⟩ : ByteArray)) (fun w => by kernel_rfl) (by kernel_rfl) ?_
  refine E.To.code ?_
  refine E.C.seq ?_
  refine E.C.seq ?_
  refine E.C.region ?_
  refine E.G.op (.int .i64 0) (fun w => by kernel_rfl) (by kernel_rfl) ?_
  refine E.To.code ?_
  refine E.C.block ?_
  refine E.C.rounds 1 ?_
  refine E.C.seq ?_
  refine E.C.seq ?_
  refine E.C.region ?_
  refine E.G.op (.int .i64 0) (fun w => by kernel_rfl) (by kernel_rfl) ?_
  refine E.G.op (.slice none 0 0) (fun w => by kernel_rfl) (by kernel_rfl) ?_
  refine E.G.op (.int .i64 0) (fun w => by kernel_rfl) (by kernel_rfl) ?_
  refine E.G.op (.bool false) (fun w => by kernel_rfl) (by kernel_rfl) ?_
  refine E.G.op (.bool false) (fun w => by kernel_rfl) (by kernel_rfl) ?_
  refine E.G.skip (by kernel_rfl) (by kernel_rfl) ?_
  refine E.G.skip (by kernel_rfl) (by kernel_rfl) ?_
  refine E.G.op (.bool false) (fun w => by kernel_rfl) (by kernel_rfl) ?_
  refine E.To.code ?_
  refine E.C.condF (by kernel_rfl) (by kernel_rfl) ?_
  refine E.C.exit (E.P.et (E.P.et (E.P.eh (E.To.code ?_))))
  refine E.C.weak [(0, .slice none 0 0), (2, .bool false), (3, .bool true), (4, .string (⟨#[]⟩ : ByteArray))] [] ⟨by kernel_rfl, by kernel_rfl⟩ (List.Sublist.refl _) ?_
  refine E.C.seq ?_
  refine E.C.seq ?_
  refine E.C.region ?_
  refine E.G.op (.int .i64 0) (fun w => by kernel_rfl) (by kernel_rfl) ?_
  refine E.To.code ?_
  refine E.C.block ?_
  refine E.C.rounds 1 ?_
  refine E.C.seq ?_
  refine E.C.seq ?_
  refine E.C.region ?_
  refine E.G.op (.int .i64 0) (fun w => by kernel_rfl) (by kernel_rfl) ?_
  refine E.G.op (.slice none 0 0) (fun w => by kernel_rfl) (by kernel_rfl) ?_
  refine E.G.op (.int .i64 0) (fun w => by kernel_rfl) (by kernel_rfl) ?_
  refine E.G.op (.bool false) (fun w => by kernel_rfl) (by kernel_rfl) ?_
  refine E.G.op (.bool false) (fun w => by kernel_rfl) (by kernel_rfl) ?_
  refine E.G.skip (by kernel_rfl) (by kernel_rfl) ?_
  refine E.G.skip (by kernel_rfl) (by kernel_rfl) ?_
  refine E.G.op (.bool false) (fun w => by kernel_rfl) (by kernel_rfl) ?_
  refine E.To.code ?_
  refine E.C.condF (by kernel_rfl) (by kernel_rfl) ?_
  refine E.C.exit (E.P.et (E.P.et (E.P.eh (E.To.code ?_))))
  refine E.C.weak [(2, .bool false), (3, .bool true), (4, .string (⟨#[]⟩ : ByteArray))] [] ⟨by kernel_rfl, by kernel_rfl⟩ (List.Sublist.refl _) ?_
  refine E.C.seq ?_
  refine E.C.region ?_
  refine E.G.op (.bool true) (fun w => by kernel_rfl) (by kernel_rfl) ?_
  refine E.G.op (.bool true) (fun w => by kernel_rfl) (by kernel_rfl) ?_
  refine E.G.op (.string (⟨#[]⟩ : ByteArray)) (fun w => by kernel_rfl) (by kernel_rfl) ?_
  refine E.G.op (.bool ((⟨#[]⟩ : ByteArray).toList == (⟨#[]⟩ : ByteArray).toList)) (fun w => by kernel_rfl) (by kernel_rfl) ?_
  refine E.G.op (.bool ((⟨#[]⟩ : ByteArray).toList == (⟨#[]⟩ : ByteArray).toList)) (fun w => by kernel_rfl) (by kernel_rfl) ?_
  refine E.G.op (.bool ((⟨#[]⟩ : ByteArray).toList == (⟨#[]⟩ : ByteArray).toList)) (fun w => by kernel_rfl) (by kernel_rfl) ?_
  refine E.To.code ?_
  refine E.C.ret (E.To.body (fn := Try.f8) [.bool ((⟨#[]⟩ : ByteArray).toList == (⟨#[]⟩ : ByteArray).toList)] ?_ ?_)
  · exact ⟨⟨by kernel_rfl, by kernel_rfl⟩, trivial⟩
  · intro w h
    exact ⟨congrArg (fun b => Ending.returned (.bool b)) (show K.streamN = true from by decide +kernel), h.ch.bel (fun _ h => h.elim)⟩
end Go.Proofs.Ytgnekniabedomaa
