/- Texts of the walk, merged (7): see the remark ahead of each. -/
import Derived.Test.YtgbndbljohpnmaaZy6
import Derived.Test.YtgbndbljohpnmaaProg
/- XQz -/
namespace Go.Proofs.Ytgbndbljohpnmaa
set_option linter.unusedVariables false
set_option linter.unusedSimpArgs false
open Go.RowKit
section
variable {P : Program} {fr : E.Fr} {T : TypeId} {d : Option Nat} {pos : String} {af : Array Edge} {gd : Option (Nat × Bool)}
/-- An element of an array's value. -/
theorem E.aidx {t e : TypeId} {x ix : Operand} (cs : Array Value) (n : Nat) (k : IntKind) (i : Int) (v : Value) {D : TypeDesc} (hu : P.underlying t = some (.array n e)) (hs : (P.info? e).map (·.size) = some 1) (he : P.underlying e = some D) (hD : (match D with | .struct _ => true | .array _ _ => true | _ => false) = false)
    (hx : E.ev fr x = .agg cs) (hi : E.ev fr ix = .int k i) (h0 : 0 ≤ i) (h1 : i < n) (hv : cs[i.toNat]? = some v) (w : World) : (execOp (E.ev fr) ⟨d, .index t x ix, T, pos, af, gd⟩).run P w = .ok (.value v) w := by
  cases hi0 : P.info? e with
  | none => rw [hi0] at hs; cases hs
  | some ie =>
    rw [hi0] at hs
    simp only [Option.map_some, Option.some.injEq] at hs
    have ha := M.one (P := P) (w := w) he hD
    have hp : (part e cs (i.toNat * 1)).run P w = .ok v w := by simp [part, ha, hv]
    show (do let r ← Instr.index t (E.ev fr x) (E.ev fr ix); pure (Next.value r) : Sem Next).run P w = _
    rw [hx, hi]
    rw [← hs] at hp
    simp [Instr.index, asIntOf, underlying, hu, sizeOf, typeInfo, hi0, h0, h1, hp]
theorem E.regs16 {f : Nat → Int} {i : Int} (h0 : 0 ≤ i) (h1 : i < 16) : (#[.int .u32 (f 0), .int .u32 (f 1), .int .u32 (f 2), .int .u32 (f 3), .int .u32 (f 4), .int .u32 (f 5), .int .u32 (f 6), .int .u32 (f 7), .int .u32 (f 8), .int .u32 (f 9), .int .u32 (f 10), .int .u32 (f 11), .int .u32 (f 12), .int .u32 (f 13), .int .u32 (f 14), .int .u32 (f 15)] : Array Value)[i.toNat]? = some (.int .u32 (f i.toNat)) := by
  have h : i.toNat < 16 := by omega
  generalize i.toNat = n at h
  rcases (by omega : n = 0 ∨ n = 1 ∨ n = 2 ∨ n = 3 ∨ n = 4 ∨ n = 5 ∨ n = 6 ∨ n = 7 ∨ n = 8 ∨ n = 9 ∨ n = 10 ∨ n = 11 ∨ n = 12 ∨ n = 13 ∨ n = 14 ∨ n = 15) with rfl | rfl | rfl | rfl | rfl | rfl | rfl | rfl | rfl | rfl | rfl | rfl | rfl | rfl | rfl | rfl <;> rfl
end
theorem Q.byt_app (s t : ByteArray) (x : Nat) : W.byt (s ++ t).data.toList x = if x < s.size then W.byt s.data.toList x else W.byt t.data.toList (x - s.size) := by
  unfold W.byt
  have e : (s ++ t).data.toList = s.data.toList ++ t.data.toList := by rw [ByteArray.data_append, Array.toList_append]
  have hs : s.data.toList.length = s.size := by rw [Array.length_toList]; rfl
  rw [e, List.getD_eq_getElem?_getD, List.getD_eq_getElem?_getD, List.getD_eq_getElem?_getD]
  split
  · rw [List.getElem?_append_left (by omega)]
  · rw [List.getElem?_append_right (by omega), hs]
def Q.syI (n4 d : Int) : Q.I := ⟨16, (IntKind.wrap .i64 (3 + (d % 13))), 0, 0, (IntKind.wrap .u32 (n4 % 1000))⟩
def Q.syO (d : Int) : Q.I := ⟨16, (IntKind.wrap .i64 (3 + (d % 13))), 0, 0, 2000⟩
def Q.syT (j : Q.I) (d : Int) : ByteArray := (W.put ((Q3.encode j).1) 4) ++ (W.put ((Q3.encode (Q.syO d)).1) 4)
theorem Q.syT_size (j : Q.I) (d : Int) : (Q.syT j d).size = 8 := by unfold Q.syT; rw [ByteArray.size_append, Q.put_size, Q.put_size]
def Q.syV (j : Q.I) (d : Int) : M.V := (((Q.oneV (⟨25, 1, 0, 0, 8⟩ : Q.I)).poke (4 : Int).toNat ((W.put ((Q3.encode j).1) 4) ++ (W.put ((Q3.encode (⟨16, (IntKind.wrap .i64 (3 + (d % 13))), 0, 0, 2000⟩ : Q.I)).1) 4)) ((W.put ((Q3.encode j).1) 4) ++ (W.put ((Q3.encode (⟨16, (IntKind.wrap .i64 (3 + (d % 13))), 0, 0, 2000⟩ : Q.I)).1) 4)).size).sync ((0 : Int).toNat / 256))
theorem Q.syV_eq (j : Q.I) (d : Int) : Q.syV j d = ((Q.oneV ⟨25, 1, 0, 0, 8⟩).poke 4 (Q.syT j d) 8).sync 0 := by
  have e : Q.syV j d = ((Q.oneV ⟨25, 1, 0, 0, 8⟩).poke 4 (Q.syT j d) (Q.syT j d).size).sync 0 := rfl
  rw [e, Q.syT_size]
theorem Q.syk (d : Int) : IntKind.wrap .i64 (3 + (d % 13)) = 3 + d % 13 ∧ 3 ≤ 3 + d % 13 ∧ 3 + d % 13 < 16 := by
  have h : 0 ≤ d % 13 ∧ d % 13 < 13 := ⟨Int.emod_nonneg _ (by decide), Int.emod_lt_of_pos _ (by decide)⟩
  exact ⟨IntWalk.i64_in _ (by omega), by omega, by omega⟩
theorem Q.sk (d : Int) : 0 ≤ IntKind.wrap .i64 (3 + (d % 13)) ∧ IntKind.wrap .i64 (3 + (d % 13)) < 16 := by
  have := Q.syk d; omega
theorem Q.syx (n4 : Int) : IntKind.wrap .u32 (n4 % 1000) = n4 % 1000 ∧ 0 ≤ n4 % 1000 ∧ n4 % 1000 < 1000 := by
  have h : 0 ≤ n4 % 1000 ∧ n4 % 1000 < 1000 := ⟨Int.emod_nonneg _ (by decide), Int.emod_lt_of_pos _ (by decide)⟩
  exact ⟨by rw [Q.wr]; omega, h.1, h.2⟩
theorem Q.sy_valid (d : Int) {x : Int} (hx : 0 ≤ x ∧ x < 131072) : Q3.valid ⟨16, IntKind.wrap .i64 (3 + (d % 13)), 0, 0, x⟩ = true := by
  have e : Q3.of 16 = ⟨true, true, true, false, true, 18, 0⟩ := rfl
  have hk := Q.syk d
  have hs : W.sign x 18 = x := by
    simp only [W.sign, Int.reduceSub, Int.reduceToNat, Int.reducePow, Int.reduceLT, Int.reduceLE, ↓reduceIte]
    split <;> omega
  unfold Q3.valid
  show (bif (!((Q3.of 16).is)) then false else (bif (((!(Q3.reg (IntKind.wrap .i64 (3 + (d % 13))) ((Q3.of 16).d))) || (!(Q3.reg 0 ((Q3.of 16).a)))) || (!(Q3.reg 0 ((Q3.of 16).b)))) then false else Q3.iimm (Q3.of 16) x)) = true
  rw [e, hk.1]
  have hr : Q3.reg (3 + d % 13) true = true := by unfold Q3.reg; simp; omega
  have hi : Q3.iimm ⟨true, true, true, false, true, 18, 0⟩ x = true := by
    show (W.sign x 18 == x) = true
    rw [hs]; simp
  show (bif ((!(Q3.reg (3 + d % 13) true)) || (!(Q3.reg 0 true)) || (!(Q3.reg 0 false))) then false else Q3.iimm ⟨true, true, true, false, true, 18, 0⟩ x) = true
  rw [hr, hi]; rfl
def Q.sys (n4 d : Int) : Q.S := Q.norm ⟨0, (Q.up (fun _ => 0) 1 ((Q3.encode (Q.syI n4 d)).1)), 0, (fun _ => 0), 0, 0⟩
theorem Q.sys_wf (n4 d : Int) : Q.wf (Q.sys n4 d) := Q.norm_wf ⟨by show (0 : Int) ≤ 0 ∧ (0 : Int) < 4294967296; decide, Q.up_bd (fun _ => by show (0 : Int) ≤ 0 ∧ (0 : Int) < 4294967296; decide) (Q3.enc_bd _), fun _ => by show (0 : Int) ≤ 0 ∧ (0 : Int) < 4294967296; decide⟩
/-- The page: the store, the second instruction, the old third one. -/
theorem Q.syV_is {j : Q.I} (hj : 0 ≤ j.imm ∧ j.imm < 4294967296) (hv : Q3.valid j = true) (d : Int) : Q.one (Q.syV j d) ∧ Q.fetch (Q.syV j d) 0 = (⟨25, 1, 0, 0, 8⟩, 0, 0) ∧ Q.fetch (Q.syV j d) 4 = (j, 0, 0) ∧ Q.holds (Q.syV j d) 8 (Q3.encode (Q.syO d)).1 := by
  obtain ⟨h1, hd, hi⟩ := Q.oneV_one ⟨25, 1, 0, 0, 8⟩
  have e := Q.syV_eq j d
  obtain ⟨g1, g2, g3⟩ := Q.again h1 4 (Q.syT j d) 8 (by decide)
  rw [← e] at g1 g2 g3
  have ht : ∀ x, W.byt (Q.syT j d).data.toList x = if x < 4 then W.byt (W.put ((Q3.encode j).1) 4).data.toList x else W.byt (W.put ((Q3.encode (Q.syO d)).1) 4).data.toList (x - 4) := fun x => by
    unfold Q.syT; rw [Q.byt_app, Q.put_size]
  refine ⟨g1, ?_, ?_, fun k hk => ?_⟩
  · refine Q.fetch_holds (p := 0) (by decide) (by decide) (Q3.enc_bd ⟨25, 1, 0, 0, 8⟩) (fun k hk => ?_) (Q3.valid_enc (by decide) (by decide +kernel)).2.2
    rw [g1.fetch (by omega), g2, if_neg (by omega), Nat.zero_add, hd k hk]
  · refine Q.fetch_holds (p := 4) (by decide) (by decide) (Q3.enc_bd j) (fun k hk => ?_) (Q3.valid_enc hj hv).2.2
    rw [g1.fetch (by omega), g2, if_pos (by omega), Nat.add_sub_cancel_left, ht, if_pos hk]
  · rw [g1.fetch (by omega), g2, if_pos (by omega), show 8 + k - 4 = 4 + k by omega, ht, if_neg (by omega), Nat.add_sub_cancel_left]
theorem M.put_f (V : M.V) (a : Nat) (v : Int) : ∀ c, (V.put a v c).n = V.n ∧ (V.put a v c).coh = V.coh ∧ (V.put a v c).r = V.r
  | 0 => ⟨rfl, rfl, rfl⟩
  | c + 1 => by
    have h := M.put_f V a v c
    rw [M.V.put, M.V.set]
    split
    · exact h
    · exact h
theorem M.put_i {V : M.V} (h0 : V.coh = false) (a : Nat) (v : Int) : ∀ c, (V.put a v c).i = V.i
  | 0 => rfl
  | c + 1 => by
    have h := M.put_i h0 a v c
    have hf := M.put_f V a v c
    rw [M.V.put, M.V.set]
    split
    · show (if (V.put a v c).coh then _ else (V.put a v c).i) = V.i
      rw [hf.2.1, h0]; exact h
    · exact h
theorem Q.put_byte (v : Int) (c : Nat) (hc : c < 4) : IntKind.wrap .u8 (Int.fdiv v (2 ^ (8 * c))) = W.byt (W.put v 4).data.toList c := by
  have e : W.put v 4 = strOfNums (W.bytes4 v) := by unfold W.put; rfl
  rw [e, W.byt_nums _ _ (fun x hx => W.bytes4_bd v x hx)]
  rcases (by omega : c = 0 ∨ c = 1 ∨ c = 2 ∨ c = 3) with rfl | rfl | rfl | rfl
  · show Int.fdiv v 1 % 256 = v % 256
    rw [Int.fdiv_eq_ediv_of_nonneg _ (by decide), Int.ediv_one]
  · show Int.fdiv v 256 % 256 = v / 256 % 256
    rw [Int.fdiv_eq_ediv_of_nonneg _ (by decide)]
  · show Int.fdiv v 65536 % 256 = v / 65536 % 256
    rw [Int.fdiv_eq_ediv_of_nonneg _ (by decide)]
  · show Int.fdiv v 16777216 % 256 = v / 16777216 % 256
    rw [Int.fdiv_eq_ediv_of_nonneg _ (by decide)]
theorem M.put_d0 {V : M.V} (h1 : V.n = 1) (a : Nat) (v : Int) : ∀ c, c ≤ 4 → a + c ≤ 256 → ∀ x, (V.put a v c).d 0 x = if a ≤ x ∧ x < a + c then W.byt (W.put v 4).data.toList (x - a) else V.d 0 x
  | 0, _, _, x => by rw [if_neg (by omega)]; rfl
  | c + 1, h4, hc, x => by
    have h := M.put_d0 h1 a v c (by omega) (by omega) x
    have hf := M.put_f V a v c
    rw [M.V.put, M.V.set, Nat.mod_eq_of_lt (by omega), if_pos (by rw [hf.1, h1]; omega)]
    show (if 0 = (a + c) / 256 ∧ x = (a + c) % 256 then _ else (V.put a v c).d 0 x) = _
    by_cases e : x = a + c
    · subst e
      rw [if_pos ⟨by omega, by omega⟩, if_pos ⟨by omega, by omega⟩, Nat.add_sub_cancel_left, Q.put_byte _ _ (by omega)]
    · rw [if_neg (by omega), h]
      by_cases k : a ≤ x ∧ x < a + c
      · rw [if_pos k, if_pos (by omega)]
      · rw [if_neg k, if_neg (by omega)]
theorem Q.run3 {s s1 s2 s3 : Q.S} {V V1 V2 V3 : M.V} {t1 t2 t3 : Int} (h0 : s.du = 0) (e1 : Q.step s V = (s1, 0, t1, V1)) (h1 : s1.du = 0) (e2 : Q.step s1 V1 = (s2, 0, t2, V2)) (h2 : s2.du = 0) (e3 : Q.step s2 V2 = (s3, 0, t3, V3)) (h3 : s3.du = 0) : Q.runs 3 s V = (s3, 1, 0, V3) := by
  show Q.run 3 4 0 s V = _
  rw [Q.run, h0, e1]
  show Q.run 3 3 1 s1 V1 = _
  rw [Q.run, h1, e2]
  show Q.run 3 2 2 s2 V2 = _
  rw [Q.run, h2, e3]
  show Q.run 3 1 3 s3 V3 = _
  rw [Q.run, h3]; rfl
theorem Q.s25 (s : Q.S) (V : M.V) : Q.stepI ⟨25, 1, 0, 0, 8⟩ 0 0 s V = (bif (((Q.acc ⟨25, 1, 0, 0, 8⟩ V (IntKind.wrap .u32 ((Q.up s.r 0 0 0) + 8)) (Q.up s.r 0 0 1)).2.1) != 0) then (s, (Q.acc ⟨25, 1, 0, 0, 8⟩ V (IntKind.wrap .u32 ((Q.up s.r 0 0 0) + 8)) (Q.up s.r 0 0 1)).2.1, (Q.acc ⟨25, 1, 0, 0, 8⟩ V (IntKind.wrap .u32 ((Q.up s.r 0 0 0) + 8)) (Q.up s.r 0 0 1)).2.2.1, (Q.acc ⟨25, 1, 0, 0, 8⟩ V (IntKind.wrap .u32 ((Q.up s.r 0 0 0) + 8)) (Q.up s.r 0 0 1)).2.2.2) else (⟨IntKind.wrap .u32 (s.pc + 4), Q.up (Q.up s.r 0 0) 0 0, s.f, s.c, IntKind.wrap .i64 (s.st + 1), s.du⟩, (Q.acc ⟨25, 1, 0, 0, 8⟩ V (IntKind.wrap .u32 ((Q.up s.r 0 0 0) + 8)) (Q.up s.r 0 0 1)).2.1, (Q.acc ⟨25, 1, 0, 0, 8⟩ V (IntKind.wrap .u32 ((Q.up s.r 0 0 0) + 8)) (Q.up s.r 0 0 1)).2.2.1, (Q.acc ⟨25, 1, 0, 0, 8⟩ V (IntKind.wrap .u32 ((Q.up s.r 0 0 0) + 8)) (Q.up s.r 0 0 1)).2.2.2)) := rfl
theorem Q.acc25 (V : M.V) (v : Int) : Q.acc ⟨25, 1, 0, 0, 8⟩ V 8 v = (0, (Q.flt (V.chk 8 2 4).1 (V.chk 8 2 4).2).1, (Q.flt (V.chk 8 2 4).1 (V.chk 8 2 4).2).2, V.sto 8 4 v) := rfl
theorem Q.one.chk {V : M.V} (h : Q.one V) : (V.chk 8 2 4).2 = true := by
  have ok : ∀ x, x < 256 → V.ok x 2 = true := fun x hx => by
    unfold M.V.ok; rw [show x / 256 = 0 by omega, h.n, h.r]; decide
  show (V.chkN 8 2 0 4).2 = true
  rw [M.V.chkN, ok _ (by decide), cond_true, M.V.chkN, ok _ (by decide), cond_true, M.V.chkN, ok _ (by decide), cond_true, M.V.chkN, ok _ (by decide), cond_true]; rfl
theorem Q.one.put {V : M.V} (h : Q.one V) (a : Nat) (v : Int) (c : Nat) : Q.one (V.put a v c) := ⟨(M.put_f V a v c).1.trans h.n, (M.put_f V a v c).2.1.trans h.coh, by rw [(M.put_f V a v c).2.2]; exact h.r⟩
theorem Q.fetch_i {V W : M.V} (hV : Q.one V) (hW : Q.one W) {x : Nat} (hx : x < 256) (h : V.i 0 x = W.i 0 x) : V.fetch x = W.fetch x := by rw [hV.fetch hx, hW.fetch hx, h]
theorem Q.fetch_same {V W : M.V} (hV : Q.one V) (hW : Q.one W) (h : ∀ x, V.i 0 x = W.i 0 x) {p : Nat} (hp : p + 4 ≤ 256) : Q.fetch V ((p : Nat) : Int) = Q.fetch W ((p : Nat) : Int) := by
  have w : ∀ k, k < 4 → V.fetch ((IntKind.wrap .u32 (((p : Nat) : Int) + ((k : Nat) : Int))).toNat) = W.fetch ((IntKind.wrap .u32 (((p : Nat) : Int) + ((k : Nat) : Int))).toNat) := fun k hk => by
    rw [Q.wt p k (by omega)]; exact Q.fetch_i hV hW (by omega) (h _)
  have w0 := w 0 (by decide); have w1 := w 1 (by decide); have w2 := w 2 (by decide); have w3 := w 3 (by decide)
  have c0 : (((0 : Nat) : Int)) = 0 := rfl
  have c1 : (((1 : Nat) : Int)) = 1 := rfl
  have c2 : (((2 : Nat) : Int)) = 2 := rfl
  have c3 : (((3 : Nat) : Int)) = 3 := rfl
  rw [c0] at w0; rw [c1] at w1; rw [c2] at w2; rw [c3] at w3
  unfold Q.fetch
  rw [w0, w1, w2, w3]
theorem Q.s1 (s : Q.S) (V : M.V) : Q.stepI ⟨1, 0, 0, 0, 0⟩ 0 0 s V = (⟨IntKind.wrap .u32 (s.pc + 4), Q.up (Q.up (Q.up s.r 0 0) 0 (W.op 3 (Q.up s.r 0 0 0) (Q.up s.r 0 0 0))) 0 0, s.f, s.c, IntKind.wrap .i64 (s.st + 1), s.du⟩, 0, 0, V) := rfl
theorem Q.s16 (s : Q.S) (V : M.V) (k m : Int) : Q.stepI ⟨16, k, 0, 0, m⟩ 0 0 s V = (⟨IntKind.wrap .u32 (s.pc + 4), Q.up (Q.up (Q.up s.r 0 0) k.toNat (W.op 3 (Q.up s.r 0 0 0) m)) 0 0, s.f, s.c, IntKind.wrap .i64 (s.st + 1), s.du⟩, 0, 0, V) := rfl
theorem Q.s52 (s : Q.S) (V : M.V) (h : V.n = 1) : Q.stepI ⟨52, 0, 0, 0, 0⟩ 0 0 s V = (⟨IntKind.wrap .u32 (s.pc + 4), Q.up (Q.up s.r 0 0) 0 0, s.f, s.c, IntKind.wrap .i64 (s.st + 1), s.du⟩, 0, 0, V.sync 0) := by
  have z : Q.up s.r 0 0 0 = 0 := if_pos rfl
  have e0 : Q.stepI ⟨52, 0, 0, 0, 0⟩ 0 0 s V = (bif (!(decide ((Q.up s.r 0 0 0).toNat / 256 < V.n))) then (s, 5, Q.up s.r 0 0 0, V.sync ((Q.up s.r 0 0 0).toNat / 256)) else (⟨IntKind.wrap .u32 (s.pc + 4), Q.up (Q.up s.r 0 0) 0 0, s.f, s.c, IntKind.wrap .i64 (s.st + 1), s.du⟩, 0, 0, V.sync ((Q.up s.r 0 0 0).toNat / 256))) := rfl
  rw [e0, z, h]; rfl
theorem Q.sy_first {j : Q.I} (hj : 0 ≤ j.imm ∧ j.imm < 4294967296) (hv : Q3.valid j = true) (n4 d : Int) : ∃ s1 V1, Q.step (Q.sys n4 d) (Q.syV j d) = (s1, 0, 0, V1) ∧ s1.pc = 4 ∧ s1.r 0 = 0 ∧ s1.du = 0 ∧ Q.one V1 ∧ (∀ x, V1.i 0 x = (Q.syV j d).i 0 x) ∧ (∀ k, k < 4 → V1.d 0 (8 + k) = W.byt (W.put (Q3.encode (Q.syI n4 d)).1 4).data.toList k) := by
  obtain ⟨h1, f0, _, _⟩ := Q.syV_is hj hv d
  have es : Q.step (Q.sys n4 d) (Q.syV j d) = Q.stepI ⟨25, 1, 0, 0, 8⟩ 0 0 (Q.sys n4 d) (Q.syV j d) := by
    unfold Q.step
    have hp : (Q.sys n4 d).pc = 0 := rfl
    rw [hp, f0]
  generalize Q.syV j d = V at *
  have z : Q.up (Q.sys n4 d).r 0 0 0 = 0 := rfl
  have v : Q.up (Q.sys n4 d).r 0 0 1 = (Q3.encode (Q.syI n4 d)).1 := rfl
  rw [Q.s25, z, v] at es
  have e8 : IntKind.wrap .u32 ((0 : Int) + 8) = 8 := rfl
  rw [e8, Q.acc25, h1.chk] at es
  have hs : V.sto 8 4 (Q3.encode (Q.syI n4 d)).1 = V.put 8 (Q3.encode (Q.syI n4 d)).1 4 := by unfold M.V.sto; rw [if_pos h1.chk]; rfl
  rw [hs] at es
  refine ⟨_, _, es, rfl, rfl, rfl, h1.put _ _ _, fun x => by rw [M.put_i h1.coh], fun k hk => ?_⟩
  show (V.put 8 (Q3.encode (Q.syI n4 d)).1 4).d 0 (8 + k) = _
  rw [M.put_d0 h1.n _ _ _ (by decide) (by decide), if_pos (by omega), Nat.add_sub_cancel_left]
theorem Q.sy_third {s2 : Q.S} {V2 : M.V} {x : Int} (d : Int) (hp : s2.pc = 8) (hx : 0 ≤ x ∧ x < 131072) (hh : Q.holds V2 8 (Q3.encode ⟨16, IntKind.wrap .i64 (3 + (d % 13)), 0, 0, x⟩).1) : ∃ s3, Q.step s2 V2 = (s3, 0, 0, V2) ∧ s3.du = s2.du ∧ s3.r (IntKind.wrap .i64 (3 + (d % 13))).toNat = x := by
  have f8 := Q.fetch_holds (p := 8) (by decide) (by decide) (Q3.enc_bd _) hh (Q3.valid_enc (by show 0 ≤ x ∧ x < 4294967296; omega) (Q.sy_valid d hx)).2.2
  have es : Q.step s2 V2 = Q.stepI ⟨16, IntKind.wrap .i64 (3 + (d % 13)), 0, 0, x⟩ 0 0 s2 V2 := by
    unfold Q.step
    rw [hp, show (8 : Int) = ((8 : Nat) : Int) from rfl, f8]
  rw [Q.s16] at es
  have hk := Q.syk d
  refine ⟨_, es, rfl, ?_⟩
  rw [hk.1]
  have n0 : (3 + d % 13).toNat ≠ 0 := by omega
  show (if (3 + d % 13).toNat = 0 then 0 else (if (3 + d % 13).toNat = (3 + d % 13).toNat then W.op 3 0 x else _)) = x
  rw [if_neg n0, if_pos rfl, W.op_3]; omega
theorem Q.sy_end {s : Q.S} {V V1 V2 : M.V} {s1 s2 : Q.S} {x n4 : Int} (d : Int) (h0 : s.du = 0) (e1 : Q.step s V = (s1, 0, 0, V1)) (h1 : s1.du = 0) (e2 : Q.step s1 V1 = (s2, 0, 0, V2)) (h2 : s2.du = 0) (hp : s2.pc = 8) (hx : 0 ≤ x ∧ x < 131072) (hh : Q.holds V2 8 (Q3.encode ⟨16, IntKind.wrap .i64 (3 + (d % 13)), 0, 0, x⟩).1)
    (ho : Q.one V2) (hd : ∀ k, k < 4 → V2.d 0 (8 + k) = W.byt (W.put (Q3.encode (Q.syI n4 d)).1 4).data.toList k) :
    (Q.runs 3 s V).2.1 = 1 ∧ (Q.runs 3 s V).1.r (IntKind.wrap .i64 (3 + (d % 13))).toNat = x ∧ (Q.runs 3 s V).2.2.2.peek 8 = IntKind.wrap .u8 (Q3.encode (Q.syI n4 d)).1 := by
  obtain ⟨s3, e3, h3, hr⟩ := Q.sy_third d hp hx hh
  rw [Q.run3 h0 e1 h1 e2 h2 e3 (h3.trans h2)]
  refine ⟨rfl, hr, ?_⟩
  show (if 8 / 256 < V2.n then V2.d 0 8 else 0) = _
  rw [if_pos (by rw [ho.n]; decide), hd 0 (by decide), ← Q.put_byte _ 0 (by decide)]
  rw [show Int.fdiv (Q3.encode (Q.syI n4 d)).1 (2 ^ (8 * 0)) = (Q3.encode (Q.syI n4 d)).1 from by rw [Int.fdiv_eq_ediv_of_nonneg _ (by decide)]; exact Int.ediv_one _]
theorem Q.sy_a (n4 d : Int) : (Q.runs 3 (Q.sys n4 d) (Q.syV ⟨52, 0, 0, 0, 0⟩ d)).2.1 = 1 ∧ (Q.runs 3 (Q.sys n4 d) (Q.syV ⟨52, 0, 0, 0, 0⟩ d)).1.r (IntKind.wrap .i64 (3 + (d % 13))).toNat = IntKind.wrap .u32 (n4 % 1000) ∧ (Q.runs 3 (Q.sys n4 d) (Q.syV ⟨52, 0, 0, 0, 0⟩ d)).2.2.2.peek 8 = IntKind.wrap .u8 (Q3.encode (Q.syI n4 d)).1 := by
  have hj : 0 ≤ (⟨52, 0, 0, 0, 0⟩ : Q.I).imm ∧ (⟨52, 0, 0, 0, 0⟩ : Q.I).imm < 4294967296 := by decide
  have hv : Q3.valid ⟨52, 0, 0, 0, 0⟩ = true := by decide +kernel
  obtain ⟨g1, _, g4, _⟩ := Q.syV_is hj hv d
  obtain ⟨s1, V1, e1, p1, r1, d1, o1, i1, b1⟩ := Q.sy_first hj hv n4 d
  have e2 : Q.step s1 V1 = Q.stepI ⟨52, 0, 0, 0, 0⟩ 0 0 s1 V1 := by
    unfold Q.step
    rw [p1, show (4 : Int) = ((4 : Nat) : Int) from rfl, Q.fetch_same o1 g1 i1 (by decide)]
    rw [show ((4 : Nat) : Int) = 4 from rfl, g4]
  rw [Q.s52 _ _ o1.n] at e2
  obtain ⟨o2, i2, b2⟩ := o1.sync
  have hx := Q.syx n4
  refine Q.sy_end d rfl e1 d1 e2 d1 (by show IntKind.wrap .u32 (s1.pc + 4) = 8; rw [p1]; rfl) (by omega) (fun k hk => ?_) o2 (fun k hk => ?_)
  · rw [o2.fetch (by omega), i2, b1 k hk]; rfl
  · rw [b2, b1 k hk]
theorem Q.sy_b (n4 d : Int) : (Q.runs 3 (Q.sys n4 d) (Q.syV ⟨1, 0, 0, 0, 0⟩ d)).2.1 = 1 ∧ (Q.runs 3 (Q.sys n4 d) (Q.syV ⟨1, 0, 0, 0, 0⟩ d)).1.r (IntKind.wrap .i64 (3 + (d % 13))).toNat = 2000 ∧ (Q.runs 3 (Q.sys n4 d) (Q.syV ⟨1, 0, 0, 0, 0⟩ d)).2.2.2.peek 8 = IntKind.wrap .u8 (Q3.encode (Q.syI n4 d)).1 := by
  have hj : 0 ≤ (⟨1, 0, 0, 0, 0⟩ : Q.I).imm ∧ (⟨1, 0, 0, 0, 0⟩ : Q.I).imm < 4294967296 := by decide
  have hv : Q3.valid ⟨1, 0, 0, 0, 0⟩ = true := by decide +kernel
  obtain ⟨g1, _, g4, g8⟩ := Q.syV_is hj hv d
  obtain ⟨s1, V1, e1, p1, r1, d1, o1, i1, b1⟩ := Q.sy_first hj hv n4 d
  have e2 : Q.step s1 V1 = Q.stepI ⟨1, 0, 0, 0, 0⟩ 0 0 s1 V1 := by
    unfold Q.step
    rw [p1, show (4 : Int) = ((4 : Nat) : Int) from rfl, Q.fetch_same o1 g1 i1 (by decide)]
    rw [show ((4 : Nat) : Int) = 4 from rfl, g4]
  rw [Q.s1] at e2
  refine Q.sy_end d rfl e1 d1 e2 d1 (by show IntKind.wrap .u32 (s1.pc + 4) = 8; rw [p1]; rfl) (by decide) (fun k hk => ?_) o1 b1
  rw [o1.fetch (by omega), i1]
  have := g8 k hk
  rw [g1.fetch (by omega)] at this
  exact this
variable {n4 d : Int}
theorem Q.y85a : (((Q.runs 3 (Q.sys n4 d) (Q.syV ⟨52, 0, 0, 0, 0⟩ d)).2.1) == 1) = true := by rw [(Q.sy_a n4 d).1]; rfl
theorem Q.y85b : (((Q.runs 3 (Q.sys n4 d) (Q.syV ⟨1, 0, 0, 0, 0⟩ d)).2.1) == 1) = true := by rw [(Q.sy_b n4 d).1]; rfl
theorem Q.y94a : (((((Q.runs 3 (Q.sys n4 d) (Q.syV ⟨52, 0, 0, 0, 0⟩ d)).1).r) ((IntKind.wrap .i64 (3 + (d % 13)))).toNat) == (IntKind.wrap .u32 (n4 % 1000))) = true := by rw [(Q.sy_a n4 d).2.1, beq_self_eq_true]
theorem Q.y94b : (((((Q.runs 3 (Q.sys n4 d) (Q.syV ⟨1, 0, 0, 0, 0⟩ d)).1).r) ((IntKind.wrap .i64 (3 + (d % 13)))).toNat) == 2000) = true := by rw [(Q.sy_b n4 d).2.1]; rfl
theorem Q.y103a : ((((Q.runs 3 (Q.sys n4 d) (Q.syV ⟨52, 0, 0, 0, 0⟩ d)).2.2.2).peek (8 : Int).toNat) == (IntKind.wrap .u8 ((Q3.encode (⟨16, (IntKind.wrap .i64 (3 + (d % 13))), 0, 0, (IntKind.wrap .u32 (n4 % 1000))⟩ : Q.I)).1))) = true := by rw [show (8 : Int).toNat = 8 from rfl, (Q.sy_a n4 d).2.2]; exact beq_self_eq_true _
theorem Q.y103b : ((((Q.runs 3 (Q.sys n4 d) (Q.syV ⟨1, 0, 0, 0, 0⟩ d)).2.2.2).peek (8 : Int).toNat) == (IntKind.wrap .u8 ((Q3.encode (⟨16, (IntKind.wrap .i64 (3 + (d % 13))), 0, 0, (IntKind.wrap .u32 (n4 % 1000))⟩ : Q.I)).1))) = true := by rw [show (8 : Int).toNat = 8 from rfl, (Q.sy_b n4 d).2.2]; exact beq_self_eq_true _
set_option maxHeartbeats 4000000 in
theorem QcpuSyncs_rd (n0 n1 n2 n3 n4 d : Int) (sy : Bool) (hn4 : -9223372036854775808 ≤ n4 ∧ n4 < 9223372036854775808) (hd : -9223372036854775808 ≤ d ∧ d < 9223372036854775808) : A.Rd Try.prog 6 #[.agg #[.int .i64 n0, .int .i64 n1, .int .i64 n2, .int .i64 n3, .int .i64 n4], .int .i64 d, .bool sy] [] (.bool true) := by
  intro w oo aa hh
  refine E.enter (n := 105) (S := oo) Try.func6 rfl rfl (by kernel_rfl) (A.start (L := []) hh) ?_
  refine E.sr ?_
  refine E.G.new (fun g => .pointer (some ⟨g, 0, none⟩)) [.int .i64 n0, .int .i64 n1, .int .i64 n2, .int .i64 n3, .int .i64 n4] 44 (fun w => by kernel_rfl) (by kernel_rfl) (fun g1 => ?_)
  refine E.op (.bool false) ?_
  refine E.tr ?_
  refine E.G.call (.bool true) (fun w h => A.call_rd [A.blk g1 ([.int .i64 n0, .int .i64 n1, .int .i64 n2, .int .i64 n3, .int .i64 n4])] (San6) h (by kernel_rfl) (A.pm [0] (by kernel_rfl) (by kernel_rfl))) (fun w _ => by kernel_rfl) (by kernel_rfl) ?_
  refine E.op (.bool true) ?_
  refine E.tr ?_
  refine E.op (.int .i64 d) ?_
  refine E.G.call (.int .i64 (d % 13)) (fun w h => Mod_any d 13 hd (by decide) w) (fun w _ => by kernel_rfl) (by kernel_rfl) ?_
  refine E.op (.int .i64 (IntKind.wrap .i64 (3 + (d % 13)))) ?_
  refine E.op (.int .i64 (IntKind.wrap .i64 (3 + (d % 13)))) ?_
  refine E.tr ?_
  refine E.op (.int .i64 (IntKind.wrap .i64 (3 + (d % 13)))) ?_
  refine E.op (.pointer (some ⟨g1, 4, none⟩)) ?_
  refine E.li (.int .i64 n4) 0 rfl rfl ?_
  refine E.G.call (.int .i64 (n4 % 1000)) (fun w h => Mod_any n4 1000 hn4 (by decide) w) (fun w _ => by kernel_rfl) (by kernel_rfl) ?_
  refine E.op (.int .u32 (IntKind.wrap .u32 (n4 % 1000))) ?_
  refine E.G.val (.agg #[.int .i64 16, .int .i64 (IntKind.wrap .i64 (3 + (d % 13))), .int .i64 0, .int .i64 0, .int .u32 (IntKind.wrap .u32 (n4 % 1000))]) (by kernel_rfl) (fun w h => E.run_build #[.int .i64 16, .int .i64 (IntKind.wrap .i64 (3 + (d % 13))), .int .i64 0, .int .i64 0, .int .u32 (IntKind.wrap .u32 (n4 % 1000))] (by kernel_rfl) w) ?_
  refine E.G.new (fun g => .pointer (some ⟨g, 0, none⟩)) [.int .i64 0, .int .i64 0, .int .i64 0, .int .i64 0, .int .u32 0] 47 (fun w => by kernel_rfl) (by kernel_rfl) (fun g2 => ?_)
  refine E.G.store 0 [.int .i64 16, .int .i64 (IntKind.wrap .i64 (3 + (d % 13))), .int .i64 0, .int .i64 0, .int .u32 (IntKind.wrap .u32 (n4 % 1000))] rfl rfl (by kernel_rfl) (by kernel_rfl) ?_
  refine E.To.code ?_
  refine E.C.weak [(2, .bool sy), (6, .bool false), (7, .bool true), (8, .int .i64 (IntKind.wrap .i64 (3 + (d % 13)))), (9, .pointer (some ⟨g2, 0, none⟩))] [(g2, [.int .i64 16, .int .i64 (IntKind.wrap .i64 (3 + (d % 13))), .int .i64 0, .int .i64 0, .int .u32 (IntKind.wrap .u32 (n4 % 1000))])] ⟨by kernel_rfl, by kernel_rfl⟩ (List.Sublist.cons_cons _ (List.nil_sublist _)) ?_
  refine E.sr ?_
  refine E.op (.int .i64 (IntKind.wrap .i64 (3 + (d % 13)))) ?_
  refine E.G.val (.agg #[.int .i64 16, .int .i64 (IntKind.wrap .i64 (3 + (d % 13))), .int .i64 0, .int .i64 0, .int .u32 2000]) (by kernel_rfl) (fun w h => E.run_build #[.int .i64 16, .int .i64 (IntKind.wrap .i64 (3 + (d % 13))), .int .i64 0, .int .i64 0, .int .u32 2000] (by kernel_rfl) w) ?_
  refine E.G.new (fun g => .pointer (some ⟨g, 0, none⟩)) [.int .i64 0, .int .i64 0, .int .i64 0, .int .i64 0, .int .u32 0] 47 (fun w => by kernel_rfl) (by kernel_rfl) (fun g3 => ?_)
  refine E.G.store 0 [.int .i64 16, .int .i64 (IntKind.wrap .i64 (3 + (d % 13))), .int .i64 0, .int .i64 0, .int .u32 2000] rfl rfl (by kernel_rfl) (by kernel_rfl) ?_
  refine E.tr ?_
  refine E.li (.agg #[.int .i64 16, .int .i64 (IntKind.wrap .i64 (3 + (d % 13))), .int .i64 0, .int .i64 0, .int .u32 (IntKind.wrap .u32 (n4 % 1000))]) 1 rfl rfl ?_
  refine E.G.call (.tuple #[.int .u32 ((Q3.encode (⟨16, (IntKind.wrap .i64 (3 + (d % 13))), 0, 0, (IntKind.wrap .u32 (n4 % 1000))⟩ : Q.I)).1), .int .i64 ((Q3.encode (⟨16, (IntKind.wrap .i64 (3 + (d % 13))), 0, 0, (IntKind.wrap .u32 (n4 % 1000))⟩ : Q.I)).2)]) (fun w h => Encode3_any (⟨16, (IntKind.wrap .i64 (3 + (d % 13))), 0, 0, (IntKind.wrap .u32 (n4 % 1000))⟩ : Q.I) (Q.wrap_bd _) w) (fun w _ => by kernel_rfl) (by kernel_rfl) ?_
  refine E.op (.tuple #[.int .u32 ((Q3.encode (⟨16, (IntKind.wrap .i64 (3 + (d % 13))), 0, 0, (IntKind.wrap .u32 (n4 % 1000))⟩ : Q.I)).1), .int .i64 ((Q3.encode (⟨16, (IntKind.wrap .i64 (3 + (d % 13))), 0, 0, (IntKind.wrap .u32 (n4 % 1000))⟩ : Q.I)).2)]) ?_
  refine E.op (.int .u32 ((Q3.encode (⟨16, (IntKind.wrap .i64 (3 + (d % 13))), 0, 0, (IntKind.wrap .u32 (n4 % 1000))⟩ : Q.I)).1)) ?_
  refine E.op (.int .i64 ((Q3.encode (⟨16, (IntKind.wrap .i64 (3 + (d % 13))), 0, 0, (IntKind.wrap .u32 (n4 % 1000))⟩ : Q.I)).2)) ?_
  refine E.op (.int .u32 ((Q3.encode (⟨16, (IntKind.wrap .i64 (3 + (d % 13))), 0, 0, (IntKind.wrap .u32 (n4 % 1000))⟩ : Q.I)).1)) ?_
  refine E.op (.int .i64 ((Q3.encode (⟨16, (IntKind.wrap .i64 (3 + (d % 13))), 0, 0, (IntKind.wrap .u32 (n4 % 1000))⟩ : Q.I)).2)) ?_
  refine E.To.code ?_
  refine E.C.weak [(2, .bool sy), (6, .bool false), (7, .bool true), (8, .int .i64 (IntKind.wrap .i64 (3 + (d % 13)))), (9, .pointer (some ⟨g2, 0, none⟩)), (10, .pointer (some ⟨g3, 0, none⟩)), (11, .int .u32 ((Q3.encode (⟨16, (IntKind.wrap .i64 (3 + (d % 13))), 0, 0, (IntKind.wrap .u32 (n4 % 1000))⟩ : Q.I)).1))] [(g3, [.int .i64 16, .int .i64 (IntKind.wrap .i64 (3 + (d % 13))), .int .i64 0, .int .i64 0, .int .u32 2000]), (g2, [.int .i64 16, .int .i64 (IntKind.wrap .i64 (3 + (d % 13))), .int .i64 0, .int .i64 0, .int .u32 (IntKind.wrap .u32 (n4 % 1000))])] ⟨by kernel_rfl, by kernel_rfl⟩ (List.Sublist.refl _) ?_
  refine E.sr ?_
  refine E.G.val (Q.S.val (⟨0, (fun _ => 0), 0, (fun _ => 0), 0, 0⟩)) (by kernel_rfl) (fun w h => E.run_build (Q.S.cells ⟨0, (fun _ => 0), 0, (fun _ => 0), 0, 0⟩).toArray (by kernel_rfl) w) ?_
  refine E.G.new (fun g => .pointer (some ⟨g, 0, none⟩)) (Q.S.cells Q.z0) 27 (fun w => by kernel_rfl) (by kernel_rfl) (fun g4 => ?_)
  refine E.G.store 0 (Q.S.cells (⟨0, (fun _ => 0), 0, (fun _ => 0), 0, 0⟩)) rfl rfl (by kernel_rfl) (by kernel_rfl) ?_
  refine E.tr ?_
  refine E.op (.int .u32 ((Q3.encode (⟨16, (IntKind.wrap .i64 (3 + (d % 13))), 0, 0, (IntKind.wrap .u32 (n4 % 1000))⟩ : Q.I)).1)) ?_
  refine E.op (.pointer (some ⟨g4, 1, none⟩)) ?_
  refine E.op (.pointer (some ⟨g4, 2, none⟩)) ?_
  refine E.G.store 0 (Q.S.cells (⟨0, (Q.up (fun _ => 0) 1 ((Q3.encode (⟨16, (IntKind.wrap .i64 (3 + (d % 13))), 0, 0, (IntKind.wrap .u32 (n4 % 1000))⟩ : Q.I)).1)), 0, (fun _ => 0), 0, 0⟩)) rfl rfl (by kernel_rfl) (by kernel_rfl) ?_
  refine E.tr ?_
  refine E.G.val (.agg #[.int .i64 25, .int .i64 1, .int .i64 0, .int .i64 0, .int .u32 8]) (by kernel_rfl) (fun w h => E.run_build #[.int .i64 25, .int .i64 1, .int .i64 0, .int .i64 0, .int .u32 8] (by kernel_rfl) w) ?_
  refine E.li (Q.S.val (⟨0, (Q.up (fun _ => 0) 1 ((Q3.encode (⟨16, (IntKind.wrap .i64 (3 + (d % 13))), 0, 0, (IntKind.wrap .u32 (n4 % 1000))⟩ : Q.I)).1)), 0, (fun _ => 0), 0, 0⟩)) 0 rfl rfl ?_
  refine A.G.call (I := Nat) (D := fun c5 => True) (V := fun c5 => .pointer (some ⟨c5, 0, none⟩)) (q := fun c5 => [M.It c5 (Q.oneV (⟨25, 1, 0, 0, 8⟩ : Q.I)) (Q.S.cells (Q.sys n4 d))]) [A.blk g4 (Q.S.cells (⟨0, (Q.up (fun _ => 0) 1 ((Q3.encode (⟨16, (IntKind.wrap .i64 (3 + (d % 13))), 0, 0, (IntKind.wrap .u32 (n4 % 1000))⟩ : Q.I)).1)), 0, (fun _ => 0), 0, 0⟩)), A.blk g3 ([.int .i64 16, .int .i64 (IntKind.wrap .i64 (3 + (d % 13))), .int .i64 0, .int .i64 0, .int .u32 2000]), A.blk g2 ([.int .i64 16, .int .i64 (IntKind.wrap .i64 (3 + (d % 13))), .int .i64 0, .int .i64 0, .int .u32 (IntKind.wrap .u32 (n4 % 1000))])] (fun c5 => [(g4, (Q.S.cells (⟨0, (Q.up (fun _ => 0) 1 ((Q3.encode (⟨16, (IntKind.wrap .i64 (3 + (d % 13))), 0, 0, (IntKind.wrap .u32 (n4 % 1000))⟩ : Q.I)).1)), 0, (fun _ => 0), 0, 0⟩))), (g3, [.int .i64 16, .int .i64 (IntKind.wrap .i64 (3 + (d % 13))), .int .i64 0, .int .i64 0, .int .u32 2000]), (g2, [.int .i64 16, .int .i64 (IntKind.wrap .i64 (3 + (d % 13))), .int .i64 0, .int .i64 0, .int .u32 (IntKind.wrap .u32 (n4 % 1000))])]) (fun c5 => [M.It c5 (Q.oneV (⟨25, 1, 0, 0, 8⟩ : Q.I)) (Q.S.cells (Q.sys n4 d))]) (COne (⟨25, 1, 0, 0, 8⟩ : Q.I) (⟨0, (Q.up (fun _ => 0) 1 ((Q3.encode (⟨16, (IntKind.wrap .i64 (3 + (d % 13))), 0, 0, (IntKind.wrap .u32 (n4 % 1000))⟩ : Q.I)).1)), 0, (fun _ => 0), 0, 0⟩ : Q.S) (by decide)) (by kernel_rfl) (A.pm [0, 1, 2] (by kernel_rfl) (by kernel_rfl)) (fun c5 => A.pm [1, 2, 3, 0] (by kernel_rfl) (by kernel_rfl)) (fun w _ => by kernel_rfl) (by kernel_rfl) (fun c5 hd6 => ?_)
  refine E.op (.pointer (some ⟨c5, 0, none⟩)) ?_
  refine E.To.code ?_
  refine E.C.weak [(2, .bool sy), (6, .bool false), (7, .bool true), (8, .int .i64 (IntKind.wrap .i64 (3 + (d % 13)))), (9, .pointer (some ⟨g2, 0, none⟩)), (10, .pointer (some ⟨g3, 0, none⟩)), (11, .int .u32 ((Q3.encode (⟨16, (IntKind.wrap .i64 (3 + (d % 13))), 0, 0, (IntKind.wrap .u32 (n4 % 1000))⟩ : Q.I)).1)), (14, .pointer (some ⟨c5, 0, none⟩))] [(g3, [.int .i64 16, .int .i64 (IntKind.wrap .i64 (3 + (d % 13))), .int .i64 0, .int .i64 0, .int .u32 2000]), (g2, [.int .i64 16, .int .i64 (IntKind.wrap .i64 (3 + (d % 13))), .int .i64 0, .int .i64 0, .int .u32 (IntKind.wrap .u32 (n4 % 1000))])] ⟨by kernel_rfl, by kernel_rfl⟩ (List.Sublist.cons _ (List.Sublist.refl _)) ?_
  refine E.C.seq ?_
  refine E.sr ?_
  refine E.op (.pointer (some ⟨c5, 0, none⟩)) ?_
  refine E.op (.bool false) ?_
  refine E.To.code ?_
  refine E.C.condF (by kernel_rfl) (by kernel_rfl) ?_
  refine E.C.skip (E.To.code ?_)
  refine E.sr ?_
  refine E.G.val (.agg #[.int .i64 1, .int .i64 0, .int .i64 0, .int .i64 0, .int .u32 0]) (by kernel_rfl) (fun w h => E.run_build #[.int .i64 1, .int .i64 0, .int .i64 0, .int .i64 0, .int .u32 0] (by kernel_rfl) w) ?_
  refine E.G.new (fun g => .pointer (some ⟨g, 0, none⟩)) [.int .i64 0, .int .i64 0, .int .i64 0, .int .i64 0, .int .u32 0] 47 (fun w => by kernel_rfl) (by kernel_rfl) (fun g7 => ?_)
  refine E.G.store 0 [.int .i64 1, .int .i64 0, .int .i64 0, .int .i64 0, .int .u32 0] rfl rfl (by kernel_rfl) (by kernel_rfl) ?_
  refine E.To.code ?_
  refine E.C.seq ?_
  refine E.sr ?_
  refine E.op (.bool sy) ?_
  refine E.To.code ?_
  refine E.C.cond sy (by kernel_rfl) (by kernel_rfl) (fun hc8 => ?_) (fun hc8 => ?_)
  · skip
    refine E.C.region ?_
    refine E.G.val (.agg #[.int .i64 52, .int .i64 0, .int .i64 0, .int .i64 0, .int .u32 0]) (by kernel_rfl) (fun w h => E.run_build #[.int .i64 52, .int .i64 0, .int .i64 0, .int .i64 0, .int .u32 0] (by kernel_rfl) w) ?_
    refine E.G.store 0 [.int .i64 52, .int .i64 0, .int .i64 0, .int .i64 0, .int .u32 0] rfl rfl (by kernel_rfl) (by kernel_rfl) ?_
    refine E.tr ?_
    refine E.li (.agg #[.int .i64 52, .int .i64 0, .int .i64 0, .int .i64 0, .int .u32 0]) 0 rfl rfl ?_
    refine E.G.call (.tuple #[.int .u32 ((Q3.encode (⟨52, 0, 0, 0, 0⟩ : Q.I)).1), .int .i64 ((Q3.encode (⟨52, 0, 0, 0, 0⟩ : Q.I)).2)]) (fun w h => Encode3_any (⟨52, 0, 0, 0, 0⟩ : Q.I) (by decide) w) (fun w _ => by kernel_rfl) (by kernel_rfl) ?_
    refine E.op (.tuple #[.int .u32 ((Q3.encode (⟨52, 0, 0, 0, 0⟩ : Q.I)).1), .int .i64 ((Q3.encode (⟨52, 0, 0, 0, 0⟩ : Q.I)).2)]) ?_
    refine E.op (.int .u32 ((Q3.encode (⟨52, 0, 0, 0, 0⟩ : Q.I)).1)) ?_
    refine E.op (.int .i64 ((Q3.encode (⟨52, 0, 0, 0, 0⟩ : Q.I)).2)) ?_
    refine E.op (.int .u32 ((Q3.encode (⟨52, 0, 0, 0, 0⟩ : Q.I)).1)) ?_
    refine E.op (.int .i64 ((Q3.encode (⟨52, 0, 0, 0, 0⟩ : Q.I)).2)) ?_
    refine E.To.code ?_
    refine E.C.weak [(2, .bool sy), (6, .bool false), (7, .bool true), (8, .int .i64 (IntKind.wrap .i64 (3 + (d % 13)))), (9, .pointer (some ⟨g2, 0, none⟩)), (10, .pointer (some ⟨g3, 0, none⟩)), (11, .int .u32 ((Q3.encode (⟨16, (IntKind.wrap .i64 (3 + (d % 13))), 0, 0, (IntKind.wrap .u32 (n4 % 1000))⟩ : Q.I)).1)), (14, .pointer (some ⟨c5, 0, none⟩)), (16, .int .u32 ((Q3.encode (⟨52, 0, 0, 0, 0⟩ : Q.I)).1))] [(g3, [.int .i64 16, .int .i64 (IntKind.wrap .i64 (3 + (d % 13))), .int .i64 0, .int .i64 0, .int .u32 2000]), (g2, [.int .i64 16, .int .i64 (IntKind.wrap .i64 (3 + (d % 13))), .int .i64 0, .int .i64 0, .int .u32 (IntKind.wrap .u32 (n4 % 1000))])] ⟨by kernel_rfl, by kernel_rfl⟩ (List.Sublist.cons _ (List.Sublist.refl _)) ?_
    refine E.sr ?_
    refine E.li (.agg #[.int .i64 16, .int .i64 (IntKind.wrap .i64 (3 + (d % 13))), .int .i64 0, .int .i64 0, .int .u32 2000]) 0 rfl rfl ?_
    refine E.G.call (.tuple #[.int .u32 ((Q3.encode (⟨16, (IntKind.wrap .i64 (3 + (d % 13))), 0, 0, 2000⟩ : Q.I)).1), .int .i64 ((Q3.encode (⟨16, (IntKind.wrap .i64 (3 + (d % 13))), 0, 0, 2000⟩ : Q.I)).2)]) (fun w h => Encode3_any (⟨16, (IntKind.wrap .i64 (3 + (d % 13))), 0, 0, 2000⟩ : Q.I) (show (0 : Int) ≤ 2000 ∧ (2000 : Int) < 4294967296 by decide) w) (fun w _ => by kernel_rfl) (by kernel_rfl) ?_
    refine E.op (.tuple #[.int .u32 ((Q3.encode (⟨16, (IntKind.wrap .i64 (3 + (d % 13))), 0, 0, 2000⟩ : Q.I)).1), .int .i64 ((Q3.encode (⟨16, (IntKind.wrap .i64 (3 + (d % 13))), 0, 0, 2000⟩ : Q.I)).2)]) ?_
    refine E.op (.int .u32 ((Q3.encode (⟨16, (IntKind.wrap .i64 (3 + (d % 13))), 0, 0, 2000⟩ : Q.I)).1)) ?_
    refine E.op (.int .i64 ((Q3.encode (⟨16, (IntKind.wrap .i64 (3 + (d % 13))), 0, 0, 2000⟩ : Q.I)).2)) ?_
    refine E.op (.int .u32 ((Q3.encode (⟨16, (IntKind.wrap .i64 (3 + (d % 13))), 0, 0, 2000⟩ : Q.I)).1)) ?_
    refine E.op (.int .i64 ((Q3.encode (⟨16, (IntKind.wrap .i64 (3 + (d % 13))), 0, 0, 2000⟩ : Q.I)).2)) ?_
    refine E.To.code ?_
    refine E.C.seq ?_
    refine E.C.held (A.Y [A.blk g3 ([.int .i64 16, .int .i64 (IntKind.wrap .i64 (3 + (d % 13))), .int .i64 0, .int .i64 0, .int .u32 2000]), A.blk g2 ([.int .i64 16, .int .i64 (IntKind.wrap .i64 (3 + (d % 13))), .int .i64 0, .int .i64 0, .int .u32 (IntKind.wrap .u32 (n4 % 1000))])]) (by kernel_rfl) ?_
    refine E.H.take 0 (.pointer (some ⟨c5, 0, none⟩)) rfl (by kernel_rfl) (by kernel_rfl) (by kernel_rfl) (fun _ _ _ h => h) (fun w h => A.hpY (p := [A.blk g3 ([.int .i64 16, .int .i64 (IntKind.wrap .i64 (3 + (d % 13))), .int .i64 0, .int .i64 0, .int .u32 2000]), A.blk g2 ([.int .i64 16, .int .i64 (IntKind.wrap .i64 (3 + (d % 13))), .int .i64 0, .int .i64 0, .int .u32 (IntKind.wrap .u32 (n4 % 1000))])]) (r := [M.It c5 (Q.oneV (⟨25, 1, 0, 0, 8⟩ : Q.I)) (Q.S.cells (Q.sys n4 d))]) h (by kernel_rfl) (A.pm [0, 1, 2] (by kernel_rfl) (by kernel_rfl))) (.inl ⟨by kernel_rfl, by kernel_rfl, fun w h => by kernel_rfl⟩) (by kernel_rfl) ?_
    refine E.H.take 1 (.pointer (some ⟨c5, 0, none⟩)) rfl (by kernel_rfl) (by kernel_rfl) (by kernel_rfl) (fun _ _ _ h => h) (fun w h => A.hpY (p := [A.blk g3 ([.int .i64 16, .int .i64 (IntKind.wrap .i64 (3 + (d % 13))), .int .i64 0, .int .i64 0, .int .u32 2000]), A.blk g2 ([.int .i64 16, .int .i64 (IntKind.wrap .i64 (3 + (d % 13))), .int .i64 0, .int .i64 0, .int .u32 (IntKind.wrap .u32 (n4 % 1000))])]) (r := [M.It c5 (Q.oneV (⟨25, 1, 0, 0, 8⟩ : Q.I)) (Q.S.cells (Q.sys n4 d))]) h (by kernel_rfl) (A.pm [0, 1, 2] (by kernel_rfl) (by kernel_rfl))) (.inl ⟨by kernel_rfl, by kernel_rfl, fun w h => by kernel_rfl⟩) (by kernel_rfl) ?_
    refine E.H.take 2 (.pointer (some ⟨c5, 0, none⟩)) rfl (by kernel_rfl) (by kernel_rfl) (by kernel_rfl) (fun _ _ _ h => h) (fun w h => A.hpY (p := [A.blk g3 ([.int .i64 16, .int .i64 (IntKind.wrap .i64 (3 + (d % 13))), .int .i64 0, .int .i64 0, .int .u32 2000]), A.blk g2 ([.int .i64 16, .int .i64 (IntKind.wrap .i64 (3 + (d % 13))), .int .i64 0, .int .i64 0, .int .u32 (IntKind.wrap .u32 (n4 % 1000))])]) (r := [M.It c5 (Q.oneV (⟨25, 1, 0, 0, 8⟩ : Q.I)) (Q.S.cells (Q.sys n4 d))]) h (by kernel_rfl) (A.pm [0, 1, 2] (by kernel_rfl) (by kernel_rfl))) (.inl ⟨by kernel_rfl, by kernel_rfl, fun w h => by kernel_rfl⟩) (by kernel_rfl) ?_
    refine E.H.take 3 (.int .u32 ((Q3.encode (⟨52, 0, 0, 0, 0⟩ : Q.I)).1)) rfl (by kernel_rfl) (by kernel_rfl) (by kernel_rfl) (fun _ _ _ h => h) (fun w h => A.hpY (p := [A.blk g3 ([.int .i64 16, .int .i64 (IntKind.wrap .i64 (3 + (d % 13))), .int .i64 0, .int .i64 0, .int .u32 2000]), A.blk g2 ([.int .i64 16, .int .i64 (IntKind.wrap .i64 (3 + (d % 13))), .int .i64 0, .int .i64 0, .int .u32 (IntKind.wrap .u32 (n4 % 1000))])]) (r := [M.It c5 (Q.oneV (⟨25, 1, 0, 0, 8⟩ : Q.I)) (Q.S.cells (Q.sys n4 d))]) h (by kernel_rfl) (A.pm [0, 1, 2] (by kernel_rfl) (by kernel_rfl))) (.inl ⟨by kernel_rfl, by kernel_rfl, fun w h => by kernel_rfl⟩) (by kernel_rfl) ?_
    refine E.H.take 5 (.int .u32 ((Q3.encode (⟨16, (IntKind.wrap .i64 (3 + (d % 13))), 0, 0, 2000⟩ : Q.I)).1)) rfl (by kernel_rfl) (by kernel_rfl) (by kernel_rfl) (fun _ _ _ h => h) (fun w h => A.hpY (p := [A.blk g3 ([.int .i64 16, .int .i64 (IntKind.wrap .i64 (3 + (d % 13))), .int .i64 0, .int .i64 0, .int .u32 2000]), A.blk g2 ([.int .i64 16, .int .i64 (IntKind.wrap .i64 (3 + (d % 13))), .int .i64 0, .int .i64 0, .int .u32 (IntKind.wrap .u32 (n4 % 1000))])]) (r := [M.It c5 (Q.oneV (⟨25, 1, 0, 0, 8⟩ : Q.I)) (Q.S.cells (Q.sys n4 d))]) h (by kernel_rfl) (A.pm [0, 1, 2] (by kernel_rfl) (by kernel_rfl))) (.inl ⟨by kernel_rfl, by kernel_rfl, fun w h => by kernel_rfl⟩) (by kernel_rfl) ?_
    refine E.H.all [4] (by kernel_rfl) (by simp) (List.forall_mem_cons.2 ⟨⟨_, rfl, ?_⟩, fun _ h => (List.not_mem_nil h).elim⟩)
    · skip
      refine E.G.call (.string (W.put ((Q3.encode (⟨52, 0, 0, 0, 0⟩ : Q.I)).1) 4)) (fun w h => rPut_all ((Q3.encode (⟨52, 0, 0, 0, 0⟩ : Q.I)).1) 4 (Q3.enc_bd _) (by omega) w) (fun w _ => by kernel_rfl) (by kernel_rfl) ?_
      refine E.H.back (fun w h => A.hpY (p := [A.blk g3 ([.int .i64 16, .int .i64 (IntKind.wrap .i64 (3 + (d % 13))), .int .i64 0, .int .i64 0, .int .u32 2000]), A.blk g2 ([.int .i64 16, .int .i64 (IntKind.wrap .i64 (3 + (d % 13))), .int .i64 0, .int .i64 0, .int .u32 (IntKind.wrap .u32 (n4 % 1000))])]) (r := [M.It c5 (Q.oneV (⟨25, 1, 0, 0, 8⟩ : Q.I)) (Q.S.cells (Q.sys n4 d))]) h (by kernel_rfl) (A.pm [0, 1, 2] (by kernel_rfl) (by kernel_rfl))) ?_
      refine E.H.all [6] (by kernel_rfl) (by simp) (List.forall_mem_cons.2 ⟨⟨_, rfl, ?_⟩, fun _ h => (List.not_mem_nil h).elim⟩)
      · skip
        refine E.G.call (.string (W.put ((Q3.encode (⟨16, (IntKind.wrap .i64 (3 + (d % 13))), 0, 0, 2000⟩ : Q.I)).1) 4)) (fun w h => rPut_all ((Q3.encode (⟨16, (IntKind.wrap .i64 (3 + (d % 13))), 0, 0, 2000⟩ : Q.I)).1) 4 (Q3.enc_bd _) (by omega) w) (fun w _ => by kernel_rfl) (by kernel_rfl) ?_
        refine E.H.back (fun w h => A.hpY (p := [A.blk g3 ([.int .i64 16, .int .i64 (IntKind.wrap .i64 (3 + (d % 13))), .int .i64 0, .int .i64 0, .int .u32 2000]), A.blk g2 ([.int .i64 16, .int .i64 (IntKind.wrap .i64 (3 + (d % 13))), .int .i64 0, .int .i64 0, .int .u32 (IntKind.wrap .u32 (n4 % 1000))])]) (r := [M.It c5 (Q.oneV (⟨25, 1, 0, 0, 8⟩ : Q.I)) (Q.S.cells (Q.sys n4 d))]) h (by kernel_rfl) (A.pm [0, 1, 2] (by kernel_rfl) (by kernel_rfl))) ?_
        refine E.H.all [7] (by kernel_rfl) (by simp) (List.forall_mem_cons.2 ⟨⟨_, rfl, ?_⟩, fun _ h => (List.not_mem_nil h).elim⟩)
        · skip
          refine E.G.val (.string ((W.put ((Q3.encode (⟨52, 0, 0, 0, 0⟩ : Q.I)).1) 4) ++ (W.put ((Q3.encode (⟨16, (IntKind.wrap .i64 (3 + (d % 13))), 0, 0, 2000⟩ : Q.I)).1) 4))) (by kernel_rfl) (fun w h => E.cat (W.put ((Q3.encode (⟨52, 0, 0, 0, 0⟩ : Q.I)).1) 4) (W.put ((Q3.encode (⟨16, (IntKind.wrap .i64 (3 + (d % 13))), 0, 0, 2000⟩ : Q.I)).1) 4) (by kernel_rfl) (by kernel_rfl) (by rw [Q.put_size, Q.put_size]; decide) w) ?_
          refine E.H.back (fun w h => A.hpY (p := [A.blk g3 ([.int .i64 16, .int .i64 (IntKind.wrap .i64 (3 + (d % 13))), .int .i64 0, .int .i64 0, .int .u32 2000]), A.blk g2 ([.int .i64 16, .int .i64 (IntKind.wrap .i64 (3 + (d % 13))), .int .i64 0, .int .i64 0, .int .u32 (IntKind.wrap .u32 (n4 % 1000))])]) (r := [M.It c5 (Q.oneV (⟨25, 1, 0, 0, 8⟩ : Q.I)) (Q.S.cells (Q.sys n4 d))]) h (by kernel_rfl) (A.pm [0, 1, 2] (by kernel_rfl) (by kernel_rfl))) ?_
          refine E.H.all [8] (by kernel_rfl) (by simp) (List.forall_mem_cons.2 ⟨⟨_, rfl, ?_⟩, fun _ h => (List.not_mem_nil h).elim⟩)
          · skip
            refine A.G.call (I := Unit) (D := fun _ => True) (V := fun _ => .tuple #[]) (q := fun _ => [M.It c5 ((Q.oneV (⟨25, 1, 0, 0, 8⟩ : Q.I)).poke (4 : Int).toNat ((W.put ((Q3.encode (⟨52, 0, 0, 0, 0⟩ : Q.I)).1) 4) ++ (W.put ((Q3.encode (⟨16, (IntKind.wrap .i64 (3 + (d % 13))), 0, 0, 2000⟩ : Q.I)).1) 4)) ((W.put ((Q3.encode (⟨52, 0, 0, 0, 0⟩ : Q.I)).1) 4) ++ (W.put ((Q3.encode (⟨16, (IntKind.wrap .i64 (3 + (d % 13))), 0, 0, 2000⟩ : Q.I)).1) 4)).size) (Q.S.cells (Q.sys n4 d))]) [A.blk g3 ([.int .i64 16, .int .i64 (IntKind.wrap .i64 (3 + (d % 13))), .int .i64 0, .int .i64 0, .int .u32 2000]), A.blk g2 ([.int .i64 16, .int .i64 (IntKind.wrap .i64 (3 + (d % 13))), .int .i64 0, .int .i64 0, .int .u32 (IntKind.wrap .u32 (n4 % 1000))])] (fun _ => [(g3, [.int .i64 16, .int .i64 (IntKind.wrap .i64 (3 + (d % 13))), .int .i64 0, .int .i64 0, .int .u32 2000]), (g2, [.int .i64 16, .int .i64 (IntKind.wrap .i64 (3 + (d % 13))), .int .i64 0, .int .i64 0, .int .u32 (IntKind.wrap .u32 (n4 % 1000))])]) (fun _ => [M.It c5 ((Q.oneV (⟨25, 1, 0, 0, 8⟩ : Q.I)).poke (4 : Int).toNat ((W.put ((Q3.encode (⟨52, 0, 0, 0, 0⟩ : Q.I)).1) 4) ++ (W.put ((Q3.encode (⟨16, (IntKind.wrap .i64 (3 + (d % 13))), 0, 0, 2000⟩ : Q.I)).1) 4)) ((W.put ((Q3.encode (⟨52, 0, 0, 0, 0⟩ : Q.I)).1) 4) ++ (W.put ((Q3.encode (⟨16, (IntKind.wrap .i64 (3 + (d % 13))), 0, 0, 2000⟩ : Q.I)).1) 4)).size) (Q.S.cells (Q.sys n4 d))]) (I_Poke 4 ((W.put ((Q3.encode (⟨52, 0, 0, 0, 0⟩ : Q.I)).1) 4) ++ (W.put ((Q3.encode (⟨16, (IntKind.wrap .i64 (3 + (d % 13))), 0, 0, 2000⟩ : Q.I)).1) 4)) (by decide) (by rw [ByteArray.size_append, Q.put_size, Q.put_size]; decide) (m := c5) (V := (Q.oneV (⟨25, 1, 0, 0, 8⟩ : Q.I))) (xs := (Q.S.cells (Q.sys n4 d)))) (by kernel_rfl) (A.pm [2, 0, 1] (by kernel_rfl) (by kernel_rfl)) (fun _ => A.pm [1, 2, 0] (by kernel_rfl) (by kernel_rfl)) (fun w _ => by kernel_rfl) (by kernel_rfl) (fun _ hd9 => ?_)
            refine E.H.back (fun w h => A.hpY (p := [A.blk g3 ([.int .i64 16, .int .i64 (IntKind.wrap .i64 (3 + (d % 13))), .int .i64 0, .int .i64 0, .int .u32 2000]), A.blk g2 ([.int .i64 16, .int .i64 (IntKind.wrap .i64 (3 + (d % 13))), .int .i64 0, .int .i64 0, .int .u32 (IntKind.wrap .u32 (n4 % 1000))])]) (r := [M.It c5 ((Q.oneV (⟨25, 1, 0, 0, 8⟩ : Q.I)).poke (4 : Int).toNat ((W.put ((Q3.encode (⟨52, 0, 0, 0, 0⟩ : Q.I)).1) 4) ++ (W.put ((Q3.encode (⟨16, (IntKind.wrap .i64 (3 + (d % 13))), 0, 0, 2000⟩ : Q.I)).1) 4)) ((W.put ((Q3.encode (⟨52, 0, 0, 0, 0⟩ : Q.I)).1) 4) ++ (W.put ((Q3.encode (⟨16, (IntKind.wrap .i64 (3 + (d % 13))), 0, 0, 2000⟩ : Q.I)).1) 4)).size) (Q.S.cells (Q.sys n4 d))]) h (by kernel_rfl) (A.pm [0, 1, 2] (by kernel_rfl) (by kernel_rfl))) ?_
            refine E.H.done (by kernel_rfl) ?_
            refine E.To.code ?_
            refine E.C.weak [(2, .bool sy), (6, .bool false), (7, .bool true), (8, .int .i64 (IntKind.wrap .i64 (3 + (d % 13)))), (9, .pointer (some ⟨g2, 0, none⟩)), (10, .pointer (some ⟨g3, 0, none⟩)), (11, .int .u32 ((Q3.encode (⟨16, (IntKind.wrap .i64 (3 + (d % 13))), 0, 0, (IntKind.wrap .u32 (n4 % 1000))⟩ : Q.I)).1)), (14, .pointer (some ⟨c5, 0, none⟩))] [(g3, [.int .i64 16, .int .i64 (IntKind.wrap .i64 (3 + (d % 13))), .int .i64 0, .int .i64 0, .int .u32 2000]), (g2, [.int .i64 16, .int .i64 (IntKind.wrap .i64 (3 + (d % 13))), .int .i64 0, .int .i64 0, .int .u32 (IntKind.wrap .u32 (n4 % 1000))])] ⟨by kernel_rfl, by kernel_rfl⟩ (List.Sublist.refl _) ?_
            refine E.sr ?_
            refine E.op (.pointer (some ⟨c5, 0, none⟩)) ?_
            refine E.op (.pointer (some ⟨c5, 0, none⟩)) ?_
            refine E.op (.pointer (some ⟨c5, 0, none⟩)) ?_
            refine A.G.call (I := Unit) (D := fun _ => True) (V := fun _ => .bool (decide ((0 : Int).toNat / 256 < ((Q.oneV (⟨25, 1, 0, 0, 8⟩ : Q.I)).poke (4 : Int).toNat ((W.put ((Q3.encode (⟨52, 0, 0, 0, 0⟩ : Q.I)).1) 4) ++ (W.put ((Q3.encode (⟨16, (IntKind.wrap .i64 (3 + (d % 13))), 0, 0, 2000⟩ : Q.I)).1) 4)) ((W.put ((Q3.encode (⟨52, 0, 0, 0, 0⟩ : Q.I)).1) 4) ++ (W.put ((Q3.encode (⟨16, (IntKind.wrap .i64 (3 + (d % 13))), 0, 0, 2000⟩ : Q.I)).1) 4)).size).n))) (q := fun _ => [M.It c5 (Q.syV ⟨52, 0, 0, 0, 0⟩ d) (Q.S.cells (Q.sys n4 d))]) [A.blk g3 ([.int .i64 16, .int .i64 (IntKind.wrap .i64 (3 + (d % 13))), .int .i64 0, .int .i64 0, .int .u32 2000]), A.blk g2 ([.int .i64 16, .int .i64 (IntKind.wrap .i64 (3 + (d % 13))), .int .i64 0, .int .i64 0, .int .u32 (IntKind.wrap .u32 (n4 % 1000))])] (fun _ => [(g3, [.int .i64 16, .int .i64 (IntKind.wrap .i64 (3 + (d % 13))), .int .i64 0, .int .i64 0, .int .u32 2000]), (g2, [.int .i64 16, .int .i64 (IntKind.wrap .i64 (3 + (d % 13))), .int .i64 0, .int .i64 0, .int .u32 (IntKind.wrap .u32 (n4 % 1000))])]) (fun _ => [M.It c5 (Q.syV ⟨52, 0, 0, 0, 0⟩ d) (Q.S.cells (Q.sys n4 d))]) (I_Sync 0 (by decide) (m := c5) (V := ((Q.oneV (⟨25, 1, 0, 0, 8⟩ : Q.I)).poke (4 : Int).toNat ((W.put ((Q3.encode (⟨52, 0, 0, 0, 0⟩ : Q.I)).1) 4) ++ (W.put ((Q3.encode (⟨16, (IntKind.wrap .i64 (3 + (d % 13))), 0, 0, 2000⟩ : Q.I)).1) 4)) ((W.put ((Q3.encode (⟨52, 0, 0, 0, 0⟩ : Q.I)).1) 4) ++ (W.put ((Q3.encode (⟨16, (IntKind.wrap .i64 (3 + (d % 13))), 0, 0, 2000⟩ : Q.I)).1) 4)).size)) (xs := (Q.S.cells (Q.sys n4 d)))) (by kernel_rfl) (A.pm [2, 0, 1] (by kernel_rfl) (by kernel_rfl)) (fun _ => A.pm [1, 2, 0] (by kernel_rfl) (by kernel_rfl)) (fun w _ => by kernel_rfl) (by kernel_rfl) (fun _ hd10 => ?_)
            refine E.tr ?_
            refine E.op (.pointer (some ⟨c5, 0, none⟩)) ?_
            refine A.G.call (I := Unit) (D := fun _ => True) (V := fun _ => .agg #[.int .i64 ((Q.runs 3 (Q.sys n4 d) (Q.syV ⟨52, 0, 0, 0, 0⟩ d)).2.1), .int .u32 ((Q.runs 3 (Q.sys n4 d) (Q.syV ⟨52, 0, 0, 0, 0⟩ d)).2.2.1)]) (q := fun _ => [M.It c5 ((Q.runs 3 (Q.sys n4 d) (Q.syV ⟨52, 0, 0, 0, 0⟩ d)).2.2.2) (Q.S.cells ((Q.runs 3 (Q.sys n4 d) (Q.syV ⟨52, 0, 0, 0, 0⟩ d)).1))]) [A.blk g3 ([.int .i64 16, .int .i64 (IntKind.wrap .i64 (3 + (d % 13))), .int .i64 0, .int .i64 0, .int .u32 2000]), A.blk g2 ([.int .i64 16, .int .i64 (IntKind.wrap .i64 (3 + (d % 13))), .int .i64 0, .int .i64 0, .int .u32 (IntKind.wrap .u32 (n4 % 1000))])] (fun _ => [(g3, [.int .i64 16, .int .i64 (IntKind.wrap .i64 (3 + (d % 13))), .int .i64 0, .int .i64 0, .int .u32 2000]), (g2, [.int .i64 16, .int .i64 (IntKind.wrap .i64 (3 + (d % 13))), .int .i64 0, .int .i64 0, .int .u32 (IntKind.wrap .u32 (n4 % 1000))])]) (fun _ => [M.It c5 ((Q.runs 3 (Q.sys n4 d) (Q.syV ⟨52, 0, 0, 0, 0⟩ d)).2.2.2) (Q.S.cells ((Q.runs 3 (Q.sys n4 d) (Q.syV ⟨52, 0, 0, 0, 0⟩ d)).1))]) (CRun (c := c5) 3 (Q.sys n4 d) (Q.syV ⟨52, 0, 0, 0, 0⟩ d) (by omega) (Q.sys_wf _ _) (R.Wf.sync (R.Wf.poke (Q.oneV_wf _) _ _ _) _)) (by kernel_rfl) (A.pm [2, 0, 1] (by kernel_rfl) (by kernel_rfl)) (fun _ => A.pm [1, 2, 0] (by kernel_rfl) (by kernel_rfl)) (fun w _ => by kernel_rfl) (by kernel_rfl) (fun _ hd11 => ?_)
            refine E.G.new (fun g => .pointer (some ⟨g, 0, none⟩)) [.int .i64 0, .int .u32 0] 51 (fun w => by kernel_rfl) (by kernel_rfl) (fun g12 => ?_)
            refine E.G.store 0 [.int .i64 ((Q.runs 3 (Q.sys n4 d) (Q.syV ⟨52, 0, 0, 0, 0⟩ d)).2.1), .int .u32 ((Q.runs 3 (Q.sys n4 d) (Q.syV ⟨52, 0, 0, 0, 0⟩ d)).2.2.1)] rfl rfl (by kernel_rfl) (by kernel_rfl) ?_
            refine E.tr ?_
            refine E.op (.pointer (some ⟨g3, 4, none⟩)) ?_
            refine E.li (.int .u32 2000) 1 rfl rfl ?_
            refine E.op (.int .u32 2000) ?_
            refine E.To.code ?_
            refine E.C.weak [(2, .bool sy), (6, .bool false), (7, .bool true), (8, .int .i64 (IntKind.wrap .i64 (3 + (d % 13)))), (9, .pointer (some ⟨g2, 0, none⟩)), (11, .int .u32 ((Q3.encode (⟨16, (IntKind.wrap .i64 (3 + (d % 13))), 0, 0, (IntKind.wrap .u32 (n4 % 1000))⟩ : Q.I)).1)), (14, .pointer (some ⟨c5, 0, none⟩)), (20, .pointer (some ⟨g12, 0, none⟩)), (21, .int .u32 2000)] [(g12, [.int .i64 ((Q.runs 3 (Q.sys n4 d) (Q.syV ⟨52, 0, 0, 0, 0⟩ d)).2.1), .int .u32 ((Q.runs 3 (Q.sys n4 d) (Q.syV ⟨52, 0, 0, 0, 0⟩ d)).2.2.1)]), (g2, [.int .i64 16, .int .i64 (IntKind.wrap .i64 (3 + (d % 13))), .int .i64 0, .int .i64 0, .int .u32 (IntKind.wrap .u32 (n4 % 1000))])] ⟨by kernel_rfl, by kernel_rfl⟩ (List.Sublist.cons_cons _ (List.Sublist.cons _ (List.Sublist.refl _))) ?_
            refine E.C.seq ?_
            refine E.sr ?_
            refine E.op (.bool sy) ?_
            refine E.To.code ?_
            refine E.C.cond sy (by kernel_rfl) (by kernel_rfl) (fun hc13 => ?_) (fun hc13 => absurd (hc8.symm.trans hc13) (by decide))
            refine E.C.region ?_
            refine E.op (.pointer (some ⟨g2, 4, none⟩)) ?_
            refine E.li (.int .u32 (IntKind.wrap .u32 (n4 % 1000))) 1 rfl rfl ?_
            refine E.op (.int .u32 (IntKind.wrap .u32 (n4 % 1000))) ?_
            refine E.tr ?_
            refine E.op (.bool true) ?_
            refine E.op (.bool true) ?_
            refine E.op (.pointer (some ⟨g12, 0, none⟩)) ?_
            refine E.li (.int .i64 ((Q.runs 3 (Q.sys n4 d) (Q.syV ⟨52, 0, 0, 0, 0⟩ d)).2.1)) 0 rfl rfl ?_
            refine E.G.val (.bool true) (by kernel_rfl) (fun w h => E.run_as (a := .bool (((Q.runs 3 (Q.sys n4 d) (Q.syV ⟨52, 0, 0, 0, 0⟩ d)).2.1) == 1)) (by kernel_rfl) (congrArg Value.bool Q.y85a)) ?_
            refine E.op (.bool true) ?_
            refine E.op (.bool true) ?_
            refine E.op (.pointer (some ⟨c5, 0, none⟩)) ?_
            refine E.G.call (Q.S.val ((Q.runs 3 (Q.sys n4 d) (Q.syV ⟨52, 0, 0, 0, 0⟩ d)).1)) (fun w h => A.call_rd [A.blk g12 ([.int .i64 ((Q.runs 3 (Q.sys n4 d) (Q.syV ⟨52, 0, 0, 0, 0⟩ d)).2.1), .int .u32 ((Q.runs 3 (Q.sys n4 d) (Q.syV ⟨52, 0, 0, 0, 0⟩ d)).2.2.1)]), A.blk g2 ([.int .i64 16, .int .i64 (IntKind.wrap .i64 (3 + (d % 13))), .int .i64 0, .int .i64 0, .int .u32 (IntKind.wrap .u32 (n4 % 1000))])] (CState (c := c5) (V := (Q.runs 3 (Q.sys n4 d) (Q.syV ⟨52, 0, 0, 0, 0⟩ d)).2.2.2) ((Q.runs 3 (Q.sys n4 d) (Q.syV ⟨52, 0, 0, 0, 0⟩ d)).1)) h (by kernel_rfl) (A.pm [2, 0, 1] (by kernel_rfl) (by kernel_rfl))) (fun w _ => by kernel_rfl) (by kernel_rfl) ?_
            refine E.op (.agg #[.int .u32 ((((Q.runs 3 (Q.sys n4 d) (Q.syV ⟨52, 0, 0, 0, 0⟩ d)).1).r) 0), .int .u32 ((((Q.runs 3 (Q.sys n4 d) (Q.syV ⟨52, 0, 0, 0, 0⟩ d)).1).r) 1), .int .u32 ((((Q.runs 3 (Q.sys n4 d) (Q.syV ⟨52, 0, 0, 0, 0⟩ d)).1).r) 2), .int .u32 ((((Q.runs 3 (Q.sys n4 d) (Q.syV ⟨52, 0, 0, 0, 0⟩ d)).1).r) 3), .int .u32 ((((Q.runs 3 (Q.sys n4 d) (Q.syV ⟨52, 0, 0, 0, 0⟩ d)).1).r) 4), .int .u32 ((((Q.runs 3 (Q.sys n4 d) (Q.syV ⟨52, 0, 0, 0, 0⟩ d)).1).r) 5), .int .u32 ((((Q.runs 3 (Q.sys n4 d) (Q.syV ⟨52, 0, 0, 0, 0⟩ d)).1).r) 6), .int .u32 ((((Q.runs 3 (Q.sys n4 d) (Q.syV ⟨52, 0, 0, 0, 0⟩ d)).1).r) 7), .int .u32 ((((Q.runs 3 (Q.sys n4 d) (Q.syV ⟨52, 0, 0, 0, 0⟩ d)).1).r) 8), .int .u32 ((((Q.runs 3 (Q.sys n4 d) (Q.syV ⟨52, 0, 0, 0, 0⟩ d)).1).r) 9), .int .u32 ((((Q.runs 3 (Q.sys n4 d) (Q.syV ⟨52, 0, 0, 0, 0⟩ d)).1).r) 10), .int .u32 ((((Q.runs 3 (Q.sys n4 d) (Q.syV ⟨52, 0, 0, 0, 0⟩ d)).1).r) 11), .int .u32 ((((Q.runs 3 (Q.sys n4 d) (Q.syV ⟨52, 0, 0, 0, 0⟩ d)).1).r) 12), .int .u32 ((((Q.runs 3 (Q.sys n4 d) (Q.syV ⟨52, 0, 0, 0, 0⟩ d)).1).r) 13), .int .u32 ((((Q.runs 3 (Q.sys n4 d) (Q.syV ⟨52, 0, 0, 0, 0⟩ d)).1).r) 14), .int .u32 ((((Q.runs 3 (Q.sys n4 d) (Q.syV ⟨52, 0, 0, 0, 0⟩ d)).1).r) 15)]) ?_
            refine E.op (.int .i64 (IntKind.wrap .i64 (3 + (d % 13)))) ?_
            refine E.G.val (.int .u32 ((((Q.runs 3 (Q.sys n4 d) (Q.syV ⟨52, 0, 0, 0, 0⟩ d)).1).r) ((IntKind.wrap .i64 (3 + (d % 13)))).toNat)) (by kernel_rfl) (fun w h => E.aidx _ 16 .i64 (IntKind.wrap .i64 (3 + (d % 13))) _ (by kernel_rfl) (by kernel_rfl) Try.underlying22 rfl (by kernel_rfl) (by kernel_rfl) (Q.sk d).1 (Q.sk d).2 (E.regs16 (f := (((Q.runs 3 (Q.sys n4 d) (Q.syV ⟨52, 0, 0, 0, 0⟩ d)).1).r)) (Q.sk d).1 (Q.sk d).2) w) ?_
            refine E.op (.int .u32 (IntKind.wrap .u32 (n4 % 1000))) ?_
            refine E.G.val (.bool true) (by kernel_rfl) (fun w h => E.run_as (a := .bool (((((Q.runs 3 (Q.sys n4 d) (Q.syV ⟨52, 0, 0, 0, 0⟩ d)).1).r) ((IntKind.wrap .i64 (3 + (d % 13)))).toNat) == (IntKind.wrap .u32 (n4 % 1000)))) (by kernel_rfl) (congrArg Value.bool Q.y94a)) ?_
            refine E.op (.bool true) ?_
            refine E.op (.bool true) ?_
            refine E.op (.pointer (some ⟨c5, 0, none⟩)) ?_
            refine E.op (.pointer (some ⟨c5, 0, none⟩)) ?_
            refine E.op (.pointer (some ⟨c5, 0, none⟩)) ?_
            refine E.G.call (.int .u8 (((Q.runs 3 (Q.sys n4 d) (Q.syV ⟨52, 0, 0, 0, 0⟩ d)).2.2.2).peek (8 : Int).toNat)) (fun w h => A.call_rd [A.blk g12 ([.int .i64 ((Q.runs 3 (Q.sys n4 d) (Q.syV ⟨52, 0, 0, 0, 0⟩ d)).2.1), .int .u32 ((Q.runs 3 (Q.sys n4 d) (Q.syV ⟨52, 0, 0, 0, 0⟩ d)).2.2.1)]), A.blk g2 ([.int .i64 16, .int .i64 (IntKind.wrap .i64 (3 + (d % 13))), .int .i64 0, .int .i64 0, .int .u32 (IntKind.wrap .u32 (n4 % 1000))])] (I_Peek 8 (by decide) (m := c5) (V := (Q.runs 3 (Q.sys n4 d) (Q.syV ⟨52, 0, 0, 0, 0⟩ d)).2.2.2) (xs := (Q.S.cells ((Q.runs 3 (Q.sys n4 d) (Q.syV ⟨52, 0, 0, 0, 0⟩ d)).1)))) h (by kernel_rfl) (A.pm [2, 0, 1] (by kernel_rfl) (by kernel_rfl))) (fun w _ => by kernel_rfl) (by kernel_rfl) ?_
            refine E.op (.int .u32 ((Q3.encode (⟨16, (IntKind.wrap .i64 (3 + (d % 13))), 0, 0, (IntKind.wrap .u32 (n4 % 1000))⟩ : Q.I)).1)) ?_
            refine E.op (.int .u8 (IntKind.wrap .u8 ((Q3.encode (⟨16, (IntKind.wrap .i64 (3 + (d % 13))), 0, 0, (IntKind.wrap .u32 (n4 % 1000))⟩ : Q.I)).1))) ?_
            refine E.G.val (.bool true) (by kernel_rfl) (fun w h => E.run_as (a := .bool ((((Q.runs 3 (Q.sys n4 d) (Q.syV ⟨52, 0, 0, 0, 0⟩ d)).2.2.2).peek (8 : Int).toNat) == (IntKind.wrap .u8 ((Q3.encode (⟨16, (IntKind.wrap .i64 (3 + (d % 13))), 0, 0, (IntKind.wrap .u32 (n4 % 1000))⟩ : Q.I)).1)))) (by kernel_rfl) (congrArg Value.bool Q.y103a)) ?_
            refine E.op (.bool true) ?_
            refine E.op (.bool true) ?_
            refine E.To.code ?_
            refine E.C.weak [(6, .bool true)] [] ⟨by kernel_rfl, by kernel_rfl⟩ (List.nil_sublist _) ?_
            refine E.C.ret (E.To.body (fn := Try.f6) [.bool true] ?_ ?_)
            · exact ⟨⟨by kernel_rfl, by kernel_rfl⟩, trivial⟩
            · intro w h
              exact ⟨rfl, h.ch.bel (fun x hx => (hh.1 x hx).elim)⟩
  · skip
    refine E.C.skip (E.To.code ?_)
    refine E.sr ?_
    refine E.li (.agg #[.int .i64 1, .int .i64 0, .int .i64 0, .int .i64 0, .int .u32 0]) 0 rfl rfl ?_
    refine E.G.call (.tuple #[.int .u32 ((Q3.encode (⟨1, 0, 0, 0, 0⟩ : Q.I)).1), .int .i64 ((Q3.encode (⟨1, 0, 0, 0, 0⟩ : Q.I)).2)]) (fun w h => Encode3_any (⟨1, 0, 0, 0, 0⟩ : Q.I) (by decide) w) (fun w _ => by kernel_rfl) (by kernel_rfl) ?_
    refine E.op (.tuple #[.int .u32 ((Q3.encode (⟨1, 0, 0, 0, 0⟩ : Q.I)).1), .int .i64 ((Q3.encode (⟨1, 0, 0, 0, 0⟩ : Q.I)).2)]) ?_
    refine E.op (.int .u32 ((Q3.encode (⟨1, 0, 0, 0, 0⟩ : Q.I)).1)) ?_
    refine E.op (.int .i64 ((Q3.encode (⟨1, 0, 0, 0, 0⟩ : Q.I)).2)) ?_
    refine E.op (.int .u32 ((Q3.encode (⟨1, 0, 0, 0, 0⟩ : Q.I)).1)) ?_
    refine E.op (.int .i64 ((Q3.encode (⟨1, 0, 0, 0, 0⟩ : Q.I)).2)) ?_
    refine E.To.code ?_
    refine E.C.weak [(2, .bool sy), (6, .bool false), (7, .bool true), (8, .int .i64 (IntKind.wrap .i64 (3 + (d % 13)))), (9, .pointer (some ⟨g2, 0, none⟩)), (10, .pointer (some ⟨g3, 0, none⟩)), (11, .int .u32 ((Q3.encode (⟨16, (IntKind.wrap .i64 (3 + (d % 13))), 0, 0, (IntKind.wrap .u32 (n4 % 1000))⟩ : Q.I)).1)), (14, .pointer (some ⟨c5, 0, none⟩)), (16, .int .u32 ((Q3.encode (⟨1, 0, 0, 0, 0⟩ : Q.I)).1))] [(g3, [.int .i64 16, .int .i64 (IntKind.wrap .i64 (3 + (d % 13))), .int .i64 0, .int .i64 0, .int .u32 2000]), (g2, [.int .i64 16, .int .i64 (IntKind.wrap .i64 (3 + (d % 13))), .int .i64 0, .int .i64 0, .int .u32 (IntKind.wrap .u32 (n4 % 1000))])] ⟨by kernel_rfl, by kernel_rfl⟩ (List.Sublist.cons _ (List.Sublist.refl _)) ?_
    refine E.sr ?_
    refine E.li (.agg #[.int .i64 16, .int .i64 (IntKind.wrap .i64 (3 + (d % 13))), .int .i64 0, .int .i64 0, .int .u32 2000]) 0 rfl rfl ?_
    refine E.G.call (.tuple #[.int .u32 ((Q3.encode (⟨16, (IntKind.wrap .i64 (3 + (d % 13))), 0, 0, 2000⟩ : Q.I)).1), .int .i64 ((Q3.encode (⟨16, (IntKind.wrap .i64 (3 + (d % 13))), 0, 0, 2000⟩ : Q.I)).2)]) (fun w h => Encode3_any (⟨16, (IntKind.wrap .i64 (3 + (d % 13))), 0, 0, 2000⟩ : Q.I) (show (0 : Int) ≤ 2000 ∧ (2000 : Int) < 4294967296 by decide) w) (fun w _ => by kernel_rfl) (by kernel_rfl) ?_
    refine E.op (.tuple #[.int .u32 ((Q3.encode (⟨16, (IntKind.wrap .i64 (3 + (d % 13))), 0, 0, 2000⟩ : Q.I)).1), .int .i64 ((Q3.encode (⟨16, (IntKind.wrap .i64 (3 + (d % 13))), 0, 0, 2000⟩ : Q.I)).2)]) ?_
    refine E.op (.int .u32 ((Q3.encode (⟨16, (IntKind.wrap .i64 (3 + (d % 13))), 0, 0, 2000⟩ : Q.I)).1)) ?_
    refine E.op (.int .i64 ((Q3.encode (⟨16, (IntKind.wrap .i64 (3 + (d % 13))), 0, 0, 2000⟩ : Q.I)).2)) ?_
    refine E.op (.int .u32 ((Q3.encode (⟨16, (IntKind.wrap .i64 (3 + (d % 13))), 0, 0, 2000⟩ : Q.I)).1)) ?_
    refine E.op (.int .i64 ((Q3.encode (⟨16, (IntKind.wrap .i64 (3 + (d % 13))), 0, 0, 2000⟩ : Q.I)).2)) ?_
    refine E.To.code ?_
    refine E.C.seq ?_
    refine E.C.held (A.Y [A.blk g3 ([.int .i64 16, .int .i64 (IntKind.wrap .i64 (3 + (d % 13))), .int .i64 0, .int .i64 0, .int .u32 2000]), A.blk g2 ([.int .i64 16, .int .i64 (IntKind.wrap .i64 (3 + (d % 13))), .int .i64 0, .int .i64 0, .int .u32 (IntKind.wrap .u32 (n4 % 1000))])]) (by kernel_rfl) ?_
    refine E.H.take 0 (.pointer (some ⟨c5, 0, none⟩)) rfl (by kernel_rfl) (by kernel_rfl) (by kernel_rfl) (fun _ _ _ h => h) (fun w h => A.hpY (p := [A.blk g3 ([.int .i64 16, .int .i64 (IntKind.wrap .i64 (3 + (d % 13))), .int .i64 0, .int .i64 0, .int .u32 2000]), A.blk g2 ([.int .i64 16, .int .i64 (IntKind.wrap .i64 (3 + (d % 13))), .int .i64 0, .int .i64 0, .int .u32 (IntKind.wrap .u32 (n4 % 1000))])]) (r := [M.It c5 (Q.oneV (⟨25, 1, 0, 0, 8⟩ : Q.I)) (Q.S.cells (Q.sys n4 d))]) h (by kernel_rfl) (A.pm [0, 1, 2] (by kernel_rfl) (by kernel_rfl))) (.inl ⟨by kernel_rfl, by kernel_rfl, fun w h => by kernel_rfl⟩) (by kernel_rfl) ?_
    refine E.H.take 1 (.pointer (some ⟨c5, 0, none⟩)) rfl (by kernel_rfl) (by kernel_rfl) (by kernel_rfl) (fun _ _ _ h => h) (fun w h => A.hpY (p := [A.blk g3 ([.int .i64 16, .int .i64 (IntKind.wrap .i64 (3 + (d % 13))), .int .i64 0, .int .i64 0, .int .u32 2000]), A.blk g2 ([.int .i64 16, .int .i64 (IntKind.wrap .i64 (3 + (d % 13))), .int .i64 0, .int .i64 0, .int .u32 (IntKind.wrap .u32 (n4 % 1000))])]) (r := [M.It c5 (Q.oneV (⟨25, 1, 0, 0, 8⟩ : Q.I)) (Q.S.cells (Q.sys n4 d))]) h (by kernel_rfl) (A.pm [0, 1, 2] (by kernel_rfl) (by kernel_rfl))) (.inl ⟨by kernel_rfl, by kernel_rfl, fun w h => by kernel_rfl⟩) (by kernel_rfl) ?_
    refine E.H.take 2 (.pointer (some ⟨c5, 0, none⟩)) rfl (by kernel_rfl) (by kernel_rfl) (by kernel_rfl) (fun _ _ _ h => h) (fun w h => A.hpY (p := [A.blk g3 ([.int .i64 16, .int .i64 (IntKind.wrap .i64 (3 + (d % 13))), .int .i64 0, .int .i64 0, .int .u32 2000]), A.blk g2 ([.int .i64 16, .int .i64 (IntKind.wrap .i64 (3 + (d % 13))), .int .i64 0, .int .i64 0, .int .u32 (IntKind.wrap .u32 (n4 % 1000))])]) (r := [M.It c5 (Q.oneV (⟨25, 1, 0, 0, 8⟩ : Q.I)) (Q.S.cells (Q.sys n4 d))]) h (by kernel_rfl) (A.pm [0, 1, 2] (by kernel_rfl) (by kernel_rfl))) (.inl ⟨by kernel_rfl, by kernel_rfl, fun w h => by kernel_rfl⟩) (by kernel_rfl) ?_
    refine E.H.take 3 (.int .u32 ((Q3.encode (⟨1, 0, 0, 0, 0⟩ : Q.I)).1)) rfl (by kernel_rfl) (by kernel_rfl) (by kernel_rfl) (fun _ _ _ h => h) (fun w h => A.hpY (p := [A.blk g3 ([.int .i64 16, .int .i64 (IntKind.wrap .i64 (3 + (d % 13))), .int .i64 0, .int .i64 0, .int .u32 2000]), A.blk g2 ([.int .i64 16, .int .i64 (IntKind.wrap .i64 (3 + (d % 13))), .int .i64 0, .int .i64 0, .int .u32 (IntKind.wrap .u32 (n4 % 1000))])]) (r := [M.It c5 (Q.oneV (⟨25, 1, 0, 0, 8⟩ : Q.I)) (Q.S.cells (Q.sys n4 d))]) h (by kernel_rfl) (A.pm [0, 1, 2] (by kernel_rfl) (by kernel_rfl))) (.inl ⟨by kernel_rfl, by kernel_rfl, fun w h => by kernel_rfl⟩) (by kernel_rfl) ?_
    refine E.H.take 5 (.int .u32 ((Q3.encode (⟨16, (IntKind.wrap .i64 (3 + (d % 13))), 0, 0, 2000⟩ : Q.I)).1)) rfl (by kernel_rfl) (by kernel_rfl) (by kernel_rfl) (fun _ _ _ h => h) (fun w h => A.hpY (p := [A.blk g3 ([.int .i64 16, .int .i64 (IntKind.wrap .i64 (3 + (d % 13))), .int .i64 0, .int .i64 0, .int .u32 2000]), A.blk g2 ([.int .i64 16, .int .i64 (IntKind.wrap .i64 (3 + (d % 13))), .int .i64 0, .int .i64 0, .int .u32 (IntKind.wrap .u32 (n4 % 1000))])]) (r := [M.It c5 (Q.oneV (⟨25, 1, 0, 0, 8⟩ : Q.I)) (Q.S.cells (Q.sys n4 d))]) h (by kernel_rfl) (A.pm [0, 1, 2] (by kernel_rfl) (by kernel_rfl))) (.inl ⟨by kernel_rfl, by kernel_rfl, fun w h => by kernel_rfl⟩) (by kernel_rfl) ?_
    refine E.H.all [4] (by kernel_rfl) (by simp) (List.forall_mem_cons.2 ⟨⟨_, rfl, ?_⟩, fun _ h => (List.not_mem_nil h).elim⟩)
    · skip
      refine E.G.call (.string (W.put ((Q3.encode (⟨1, 0, 0, 0, 0⟩ : Q.I)).1) 4)) (fun w h => rPut_all ((Q3.encode (⟨1, 0, 0, 0, 0⟩ : Q.I)).1) 4 (Q3.enc_bd _) (by omega) w) (fun w _ => by kernel_rfl) (by kernel_rfl) ?_
      refine E.H.back (fun w h => A.hpY (p := [A.blk g3 ([.int .i64 16, .int .i64 (IntKind.wrap .i64 (3 + (d % 13))), .int .i64 0, .int .i64 0, .int .u32 2000]), A.blk g2 ([.int .i64 16, .int .i64 (IntKind.wrap .i64 (3 + (d % 13))), .int .i64 0, .int .i64 0, .int .u32 (IntKind.wrap .u32 (n4 % 1000))])]) (r := [M.It c5 (Q.oneV (⟨25, 1, 0, 0, 8⟩ : Q.I)) (Q.S.cells (Q.sys n4 d))]) h (by kernel_rfl) (A.pm [0, 1, 2] (by kernel_rfl) (by kernel_rfl))) ?_
      refine E.H.all [6] (by kernel_rfl) (by simp) (List.forall_mem_cons.2 ⟨⟨_, rfl, ?_⟩, fun _ h => (List.not_mem_nil h).elim⟩)
      · skip
        refine E.G.call (.string (W.put ((Q3.encode (⟨16, (IntKind.wrap .i64 (3 + (d % 13))), 0, 0, 2000⟩ : Q.I)).1) 4)) (fun w h => rPut_all ((Q3.encode (⟨16, (IntKind.wrap .i64 (3 + (d % 13))), 0, 0, 2000⟩ : Q.I)).1) 4 (Q3.enc_bd _) (by omega) w) (fun w _ => by kernel_rfl) (by kernel_rfl) ?_
        refine E.H.back (fun w h => A.hpY (p := [A.blk g3 ([.int .i64 16, .int .i64 (IntKind.wrap .i64 (3 + (d % 13))), .int .i64 0, .int .i64 0, .int .u32 2000]), A.blk g2 ([.int .i64 16, .int .i64 (IntKind.wrap .i64 (3 + (d % 13))), .int .i64 0, .int .i64 0, .int .u32 (IntKind.wrap .u32 (n4 % 1000))])]) (r := [M.It c5 (Q.oneV (⟨25, 1, 0, 0, 8⟩ : Q.I)) (Q.S.cells (Q.sys n4 d))]) h (by kernel_rfl) (A.pm [0, 1, 2] (by kernel_rfl) (by kernel_rfl))) ?_
        refine E.H.all [7] (by kernel_rfl) (by simp) (List.forall_mem_cons.2 ⟨⟨_, rfl, ?_⟩, fun _ h => (List.not_mem_nil h).elim⟩)
        · skip
          refine E.G.val (.string ((W.put ((Q3.encode (⟨1, 0, 0, 0, 0⟩ : Q.I)).1) 4) ++ (W.put ((Q3.encode (⟨16, (IntKind.wrap .i64 (3 + (d % 13))), 0, 0, 2000⟩ : Q.I)).1) 4))) (by kernel_rfl) (fun w h => E.cat (W.put ((Q3.encode (⟨1, 0, 0, 0, 0⟩ : Q.I)).1) 4) (W.put ((Q3.encode (⟨16, (IntKind.wrap .i64 (3 + (d % 13))), 0, 0, 2000⟩ : Q.I)).1) 4) (by kernel_rfl) (by kernel_rfl) (by rw [Q.put_size, Q.put_size]; decide) w) ?_
          refine E.H.back (fun w h => A.hpY (p := [A.blk g3 ([.int .i64 16, .int .i64 (IntKind.wrap .i64 (3 + (d % 13))), .int .i64 0, .int .i64 0, .int .u32 2000]), A.blk g2 ([.int .i64 16, .int .i64 (IntKind.wrap .i64 (3 + (d % 13))), .int .i64 0, .int .i64 0, .int .u32 (IntKind.wrap .u32 (n4 % 1000))])]) (r := [M.It c5 (Q.oneV (⟨25, 1, 0, 0, 8⟩ : Q.I)) (Q.S.cells (Q.sys n4 d))]) h (by kernel_rfl) (A.pm [0, 1, 2] (by kernel_rfl) (by kernel_rfl))) ?_
          refine E.H.all [8] (by kernel_rfl) (by simp) (List.forall_mem_cons.2 ⟨⟨_, rfl, ?_⟩, fun _ h => (List.not_mem_nil h).elim⟩)
          · skip
            refine A.G.call (I := Unit) (D := fun _ => True) (V := fun _ => .tuple #[]) (q := fun _ => [M.It c5 ((Q.oneV (⟨25, 1, 0, 0, 8⟩ : Q.I)).poke (4 : Int).toNat ((W.put ((Q3.encode (⟨1, 0, 0, 0, 0⟩ : Q.I)).1) 4) ++ (W.put ((Q3.encode (⟨16, (IntKind.wrap .i64 (3 + (d % 13))), 0, 0, 2000⟩ : Q.I)).1) 4)) ((W.put ((Q3.encode (⟨1, 0, 0, 0, 0⟩ : Q.I)).1) 4) ++ (W.put ((Q3.encode (⟨16, (IntKind.wrap .i64 (3 + (d % 13))), 0, 0, 2000⟩ : Q.I)).1) 4)).size) (Q.S.cells (Q.sys n4 d))]) [A.blk g3 ([.int .i64 16, .int .i64 (IntKind.wrap .i64 (3 + (d % 13))), .int .i64 0, .int .i64 0, .int .u32 2000]), A.blk g2 ([.int .i64 16, .int .i64 (IntKind.wrap .i64 (3 + (d % 13))), .int .i64 0, .int .i64 0, .int .u32 (IntKind.wrap .u32 (n4 % 1000))])] (fun _ => [(g3, [.int .i64 16, .int .i64 (IntKind.wrap .i64 (3 + (d % 13))), .int .i64 0, .int .i64 0, .int .u32 2000]), (g2, [.int .i64 16, .int .i64 (IntKind.wrap .i64 (3 + (d % 13))), .int .i64 0, .int .i64 0, .int .u32 (IntKind.wrap .u32 (n4 % 1000))])]) (fun _ => [M.It c5 ((Q.oneV (⟨25, 1, 0, 0, 8⟩ : Q.I)).poke (4 : Int).toNat ((W.put ((Q3.encode (⟨1, 0, 0, 0, 0⟩ : Q.I)).1) 4) ++ (W.put ((Q3.encode (⟨16, (IntKind.wrap .i64 (3 + (d % 13))), 0, 0, 2000⟩ : Q.I)).1) 4)) ((W.put ((Q3.encode (⟨1, 0, 0, 0, 0⟩ : Q.I)).1) 4) ++ (W.put ((Q3.encode (⟨16, (IntKind.wrap .i64 (3 + (d % 13))), 0, 0, 2000⟩ : Q.I)).1) 4)).size) (Q.S.cells (Q.sys n4 d))]) (I_Poke 4 ((W.put ((Q3.encode (⟨1, 0, 0, 0, 0⟩ : Q.I)).1) 4) ++ (W.put ((Q3.encode (⟨16, (IntKind.wrap .i64 (3 + (d % 13))), 0, 0, 2000⟩ : Q.I)).1) 4)) (by decide) (by rw [ByteArray.size_append, Q.put_size, Q.put_size]; decide) (m := c5) (V := (Q.oneV (⟨25, 1, 0, 0, 8⟩ : Q.I))) (xs := (Q.S.cells (Q.sys n4 d)))) (by kernel_rfl) (A.pm [2, 0, 1] (by kernel_rfl) (by kernel_rfl)) (fun _ => A.pm [1, 2, 0] (by kernel_rfl) (by kernel_rfl)) (fun w _ => by kernel_rfl) (by kernel_rfl) (fun _ hd14 => ?_)
            refine E.H.back (fun w h => A.hpY (p := [A.blk g3 ([.int .i64 16, .int .i64 (IntKind.wrap .i64 (3 + (d % 13))), .int .i64 0, .int .i64 0, .int .u32 2000]), A.blk g2 ([.int .i64 16, .int .i64 (IntKind.wrap .i64 (3 + (d % 13))), .int .i64 0, .int .i64 0, .int .u32 (IntKind.wrap .u32 (n4 % 1000))])]) (r := [M.It c5 ((Q.oneV (⟨25, 1, 0, 0, 8⟩ : Q.I)).poke (4 : Int).toNat ((W.put ((Q3.encode (⟨1, 0, 0, 0, 0⟩ : Q.I)).1) 4) ++ (W.put ((Q3.encode (⟨16, (IntKind.wrap .i64 (3 + (d % 13))), 0, 0, 2000⟩ : Q.I)).1) 4)) ((W.put ((Q3.encode (⟨1, 0, 0, 0, 0⟩ : Q.I)).1) 4) ++ (W.put ((Q3.encode (⟨16, (IntKind.wrap .i64 (3 + (d % 13))), 0, 0, 2000⟩ : Q.I)).1) 4)).size) (Q.S.cells (Q.sys n4 d))]) h (by kernel_rfl) (A.pm [0, 1, 2] (by kernel_rfl) (by kernel_rfl))) ?_
            refine E.H.done (by kernel_rfl) ?_
            refine E.To.code ?_
            refine E.C.weak [(2, .bool sy), (6, .bool false), (7, .bool true), (8, .int .i64 (IntKind.wrap .i64 (3 + (d % 13)))), (9, .pointer (some ⟨g2, 0, none⟩)), (10, .pointer (some ⟨g3, 0, none⟩)), (11, .int .u32 ((Q3.encode (⟨16, (IntKind.wrap .i64 (3 + (d % 13))), 0, 0, (IntKind.wrap .u32 (n4 % 1000))⟩ : Q.I)).1)), (14, .pointer (some ⟨c5, 0, none⟩))] [(g3, [.int .i64 16, .int .i64 (IntKind.wrap .i64 (3 + (d % 13))), .int .i64 0, .int .i64 0, .int .u32 2000]), (g2, [.int .i64 16, .int .i64 (IntKind.wrap .i64 (3 + (d % 13))), .int .i64 0, .int .i64 0, .int .u32 (IntKind.wrap .u32 (n4 % 1000))])] ⟨by kernel_rfl, by kernel_rfl⟩ (List.Sublist.refl _) ?_
            refine E.sr ?_
            refine E.op (.pointer (some ⟨c5, 0, none⟩)) ?_
            refine E.op (.pointer (some ⟨c5, 0, none⟩)) ?_
            refine E.op (.pointer (some ⟨c5, 0, none⟩)) ?_
            refine A.G.call (I := Unit) (D := fun _ => True) (V := fun _ => .bool (decide ((0 : Int).toNat / 256 < ((Q.oneV (⟨25, 1, 0, 0, 8⟩ : Q.I)).poke (4 : Int).toNat ((W.put ((Q3.encode (⟨1, 0, 0, 0, 0⟩ : Q.I)).1) 4) ++ (W.put ((Q3.encode (⟨16, (IntKind.wrap .i64 (3 + (d % 13))), 0, 0, 2000⟩ : Q.I)).1) 4)) ((W.put ((Q3.encode (⟨1, 0, 0, 0, 0⟩ : Q.I)).1) 4) ++ (W.put ((Q3.encode (⟨16, (IntKind.wrap .i64 (3 + (d % 13))), 0, 0, 2000⟩ : Q.I)).1) 4)).size).n))) (q := fun _ => [M.It c5 (Q.syV ⟨1, 0, 0, 0, 0⟩ d) (Q.S.cells (Q.sys n4 d))]) [A.blk g3 ([.int .i64 16, .int .i64 (IntKind.wrap .i64 (3 + (d % 13))), .int .i64 0, .int .i64 0, .int .u32 2000]), A.blk g2 ([.int .i64 16, .int .i64 (IntKind.wrap .i64 (3 + (d % 13))), .int .i64 0, .int .i64 0, .int .u32 (IntKind.wrap .u32 (n4 % 1000))])] (fun _ => [(g3, [.int .i64 16, .int .i64 (IntKind.wrap .i64 (3 + (d % 13))), .int .i64 0, .int .i64 0, .int .u32 2000]), (g2, [.int .i64 16, .int .i64 (IntKind.wrap .i64 (3 + (d % 13))), .int .i64 0, .int .i64 0, .int .u32 (IntKind.wrap .u32 (n4 % 1000))])]) (fun _ => [M.It c5 (Q.syV ⟨1, 0, 0, 0, 0⟩ d) (Q.S.cells (Q.sys n4 d))]) (I_Sync 0 (by decide) (m := c5) (V := ((Q.oneV (⟨25, 1, 0, 0, 8⟩ : Q.I)).poke (4 : Int).toNat ((W.put ((Q3.encode (⟨1, 0, 0, 0, 0⟩ : Q.I)).1) 4) ++ (W.put ((Q3.encode (⟨16, (IntKind.wrap .i64 (3 + (d % 13))), 0, 0, 2000⟩ : Q.I)).1) 4)) ((W.put ((Q3.encode (⟨1, 0, 0, 0, 0⟩ : Q.I)).1) 4) ++ (W.put ((Q3.encode (⟨16, (IntKind.wrap .i64 (3 + (d % 13))), 0, 0, 2000⟩ : Q.I)).1) 4)).size)) (xs := (Q.S.cells (Q.sys n4 d)))) (by kernel_rfl) (A.pm [2, 0, 1] (by kernel_rfl) (by kernel_rfl)) (fun _ => A.pm [1, 2, 0] (by kernel_rfl) (by kernel_rfl)) (fun w _ => by kernel_rfl) (by kernel_rfl) (fun _ hd15 => ?_)
            refine E.tr ?_
            refine E.op (.pointer (some ⟨c5, 0, none⟩)) ?_
            refine A.G.call (I := Unit) (D := fun _ => True) (V := fun _ => .agg #[.int .i64 ((Q.runs 3 (Q.sys n4 d) (Q.syV ⟨1, 0, 0, 0, 0⟩ d)).2.1), .int .u32 ((Q.runs 3 (Q.sys n4 d) (Q.syV ⟨1, 0, 0, 0, 0⟩ d)).2.2.1)]) (q := fun _ => [M.It c5 ((Q.runs 3 (Q.sys n4 d) (Q.syV ⟨1, 0, 0, 0, 0⟩ d)).2.2.2) (Q.S.cells ((Q.runs 3 (Q.sys n4 d) (Q.syV ⟨1, 0, 0, 0, 0⟩ d)).1))]) [A.blk g3 ([.int .i64 16, .int .i64 (IntKind.wrap .i64 (3 + (d % 13))), .int .i64 0, .int .i64 0, .int .u32 2000]), A.blk g2 ([.int .i64 16, .int .i64 (IntKind.wrap .i64 (3 + (d % 13))), .int .i64 0, .int .i64 0, .int .u32 (IntKind.wrap .u32 (n4 % 1000))])] (fun _ => [(g3, [.int .i64 16, .int .i64 (IntKind.wrap .i64 (3 + (d % 13))), .int .i64 0, .int .i64 0, .int .u32 2000]), (g2, [.int .i64 16, .int .i64 (IntKind.wrap .i64 (3 + (d % 13))), .int .i64 0, .int .i64 0, .int .u32 (IntKind.wrap .u32 (n4 % 1000))])]) (fun _ => [M.It c5 ((Q.runs 3 (Q.sys n4 d) (Q.syV ⟨1, 0, 0, 0, 0⟩ d)).2.2.2) (Q.S.cells ((Q.runs 3 (Q.sys n4 d) (Q.syV ⟨1, 0, 0, 0, 0⟩ d)).1))]) (CRun (c := c5) 3 (Q.sys n4 d) (Q.syV ⟨1, 0, 0, 0, 0⟩ d) (by omega) (Q.sys_wf _ _) (R.Wf.sync (R.Wf.poke (Q.oneV_wf _) _ _ _) _)) (by kernel_rfl) (A.pm [2, 0, 1] (by kernel_rfl) (by kernel_rfl)) (fun _ => A.pm [1, 2, 0] (by kernel_rfl) (by kernel_rfl)) (fun w _ => by kernel_rfl) (by kernel_rfl) (fun _ hd16 => ?_)
            refine E.G.new (fun g => .pointer (some ⟨g, 0, none⟩)) [.int .i64 0, .int .u32 0] 51 (fun w => by kernel_rfl) (by kernel_rfl) (fun g17 => ?_)
            refine E.G.store 0 [.int .i64 ((Q.runs 3 (Q.sys n4 d) (Q.syV ⟨1, 0, 0, 0, 0⟩ d)).2.1), .int .u32 ((Q.runs 3 (Q.sys n4 d) (Q.syV ⟨1, 0, 0, 0, 0⟩ d)).2.2.1)] rfl rfl (by kernel_rfl) (by kernel_rfl) ?_
            refine E.tr ?_
            refine E.op (.pointer (some ⟨g3, 4, none⟩)) ?_
            refine E.li (.int .u32 2000) 1 rfl rfl ?_
            refine E.op (.int .u32 2000) ?_
            refine E.To.code ?_
            refine E.C.weak [(2, .bool sy), (6, .bool false), (7, .bool true), (8, .int .i64 (IntKind.wrap .i64 (3 + (d % 13)))), (9, .pointer (some ⟨g2, 0, none⟩)), (11, .int .u32 ((Q3.encode (⟨16, (IntKind.wrap .i64 (3 + (d % 13))), 0, 0, (IntKind.wrap .u32 (n4 % 1000))⟩ : Q.I)).1)), (14, .pointer (some ⟨c5, 0, none⟩)), (20, .pointer (some ⟨g17, 0, none⟩)), (21, .int .u32 2000)] [(g17, [.int .i64 ((Q.runs 3 (Q.sys n4 d) (Q.syV ⟨1, 0, 0, 0, 0⟩ d)).2.1), .int .u32 ((Q.runs 3 (Q.sys n4 d) (Q.syV ⟨1, 0, 0, 0, 0⟩ d)).2.2.1)]), (g2, [.int .i64 16, .int .i64 (IntKind.wrap .i64 (3 + (d % 13))), .int .i64 0, .int .i64 0, .int .u32 (IntKind.wrap .u32 (n4 % 1000))])] ⟨by kernel_rfl, by kernel_rfl⟩ (List.Sublist.cons_cons _ (List.Sublist.cons _ (List.Sublist.refl _))) ?_
            refine E.C.seq ?_
            refine E.sr ?_
            refine E.op (.bool sy) ?_
            refine E.To.code ?_
            refine E.C.cond sy (by kernel_rfl) (by kernel_rfl) (fun hc18 => absurd (hc8.symm.trans hc18) (by decide)) (fun hc18 => ?_)
            refine E.C.skip (E.To.code ?_)
            refine E.sr ?_
            refine E.op (.bool true) ?_
            refine E.op (.bool true) ?_
            refine E.op (.pointer (some ⟨g17, 0, none⟩)) ?_
            refine E.li (.int .i64 ((Q.runs 3 (Q.sys n4 d) (Q.syV ⟨1, 0, 0, 0, 0⟩ d)).2.1)) 0 rfl rfl ?_
            refine E.G.val (.bool true) (by kernel_rfl) (fun w h => E.run_as (a := .bool (((Q.runs 3 (Q.sys n4 d) (Q.syV ⟨1, 0, 0, 0, 0⟩ d)).2.1) == 1)) (by kernel_rfl) (congrArg Value.bool Q.y85b)) ?_
            refine E.op (.bool true) ?_
            refine E.op (.bool true) ?_
            refine E.op (.pointer (some ⟨c5, 0, none⟩)) ?_
            refine E.G.call (Q.S.val ((Q.runs 3 (Q.sys n4 d) (Q.syV ⟨1, 0, 0, 0, 0⟩ d)).1)) (fun w h => A.call_rd [A.blk g17 ([.int .i64 ((Q.runs 3 (Q.sys n4 d) (Q.syV ⟨1, 0, 0, 0, 0⟩ d)).2.1), .int .u32 ((Q.runs 3 (Q.sys n4 d) (Q.syV ⟨1, 0, 0, 0, 0⟩ d)).2.2.1)]), A.blk g2 ([.int .i64 16, .int .i64 (IntKind.wrap .i64 (3 + (d % 13))), .int .i64 0, .int .i64 0, .int .u32 (IntKind.wrap .u32 (n4 % 1000))])] (CState (c := c5) (V := (Q.runs 3 (Q.sys n4 d) (Q.syV ⟨1, 0, 0, 0, 0⟩ d)).2.2.2) ((Q.runs 3 (Q.sys n4 d) (Q.syV ⟨1, 0, 0, 0, 0⟩ d)).1)) h (by kernel_rfl) (A.pm [2, 0, 1] (by kernel_rfl) (by kernel_rfl))) (fun w _ => by kernel_rfl) (by kernel_rfl) ?_
            refine E.op (.agg #[.int .u32 ((((Q.runs 3 (Q.sys n4 d) (Q.syV ⟨1, 0, 0, 0, 0⟩ d)).1).r) 0), .int .u32 ((((Q.runs 3 (Q.sys n4 d) (Q.syV ⟨1, 0, 0, 0, 0⟩ d)).1).r) 1), .int .u32 ((((Q.runs 3 (Q.sys n4 d) (Q.syV ⟨1, 0, 0, 0, 0⟩ d)).1).r) 2), .int .u32 ((((Q.runs 3 (Q.sys n4 d) (Q.syV ⟨1, 0, 0, 0, 0⟩ d)).1).r) 3), .int .u32 ((((Q.runs 3 (Q.sys n4 d) (Q.syV ⟨1, 0, 0, 0, 0⟩ d)).1).r) 4), .int .u32 ((((Q.runs 3 (Q.sys n4 d) (Q.syV ⟨1, 0, 0, 0, 0⟩ d)).1).r) 5), .int .u32 ((((Q.runs 3 (Q.sys n4 d) (Q.syV ⟨1, 0, 0, 0, 0⟩ d)).1).r) 6), .int .u32 ((((Q.runs 3 (Q.sys n4 d) (Q.syV ⟨1, 0, 0, 0, 0⟩ d)).1).r) 7), .int .u32 ((((Q.runs 3 (Q.sys n4 d) (Q.syV ⟨1, 0, 0, 0, 0⟩ d)).1).r) 8), .int .u32 ((((Q.runs 3 (Q.sys n4 d) (Q.syV ⟨1, 0, 0, 0, 0⟩ d)).1).r) 9), .int .u32 ((((Q.runs 3 (Q.sys n4 d) (Q.syV ⟨1, 0, 0, 0, 0⟩ d)).1).r) 10), .int .u32 ((((Q.runs 3 (Q.sys n4 d) (Q.syV ⟨1, 0, 0, 0, 0⟩ d)).1).r) 11), .int .u32 ((((Q.runs 3 (Q.sys n4 d) (Q.syV ⟨1, 0, 0, 0, 0⟩ d)).1).r) 12), .int .u32 ((((Q.runs 3 (Q.sys n4 d) (Q.syV ⟨1, 0, 0, 0, 0⟩ d)).1).r) 13), .int .u32 ((((Q.runs 3 (Q.sys n4 d) (Q.syV ⟨1, 0, 0, 0, 0⟩ d)).1).r) 14), .int .u32 ((((Q.runs 3 (Q.sys n4 d) (Q.syV ⟨1, 0, 0, 0, 0⟩ d)).1).r) 15)]) ?_
            refine E.op (.int .i64 (IntKind.wrap .i64 (3 + (d % 13)))) ?_
            refine E.G.val (.int .u32 ((((Q.runs 3 (Q.sys n4 d) (Q.syV ⟨1, 0, 0, 0, 0⟩ d)).1).r) ((IntKind.wrap .i64 (3 + (d % 13)))).toNat)) (by kernel_rfl) (fun w h => E.aidx _ 16 .i64 (IntKind.wrap .i64 (3 + (d % 13))) _ (by kernel_rfl) (by kernel_rfl) Try.underlying22 rfl (by kernel_rfl) (by kernel_rfl) (Q.sk d).1 (Q.sk d).2 (E.regs16 (f := (((Q.runs 3 (Q.sys n4 d) (Q.syV ⟨1, 0, 0, 0, 0⟩ d)).1).r)) (Q.sk d).1 (Q.sk d).2) w) ?_
            refine E.op (.int .u32 2000) ?_
            refine E.G.val (.bool true) (by kernel_rfl) (fun w h => E.run_as (a := .bool (((((Q.runs 3 (Q.sys n4 d) (Q.syV ⟨1, 0, 0, 0, 0⟩ d)).1).r) ((IntKind.wrap .i64 (3 + (d % 13)))).toNat) == 2000)) (by kernel_rfl) (congrArg Value.bool Q.y94b)) ?_
            refine E.op (.bool true) ?_
            refine E.op (.bool true) ?_
            refine E.op (.pointer (some ⟨c5, 0, none⟩)) ?_
            refine E.op (.pointer (some ⟨c5, 0, none⟩)) ?_
            refine E.op (.pointer (some ⟨c5, 0, none⟩)) ?_
            refine E.G.call (.int .u8 (((Q.runs 3 (Q.sys n4 d) (Q.syV ⟨1, 0, 0, 0, 0⟩ d)).2.2.2).peek (8 : Int).toNat)) (fun w h => A.call_rd [A.blk g17 ([.int .i64 ((Q.runs 3 (Q.sys n4 d) (Q.syV ⟨1, 0, 0, 0, 0⟩ d)).2.1), .int .u32 ((Q.runs 3 (Q.sys n4 d) (Q.syV ⟨1, 0, 0, 0, 0⟩ d)).2.2.1)]), A.blk g2 ([.int .i64 16, .int .i64 (IntKind.wrap .i64 (3 + (d % 13))), .int .i64 0, .int .i64 0, .int .u32 (IntKind.wrap .u32 (n4 % 1000))])] (I_Peek 8 (by decide) (m := c5) (V := (Q.runs 3 (Q.sys n4 d) (Q.syV ⟨1, 0, 0, 0, 0⟩ d)).2.2.2) (xs := (Q.S.cells ((Q.runs 3 (Q.sys n4 d) (Q.syV ⟨1, 0, 0, 0, 0⟩ d)).1)))) h (by kernel_rfl) (A.pm [2, 0, 1] (by kernel_rfl) (by kernel_rfl))) (fun w _ => by kernel_rfl) (by kernel_rfl) ?_
            refine E.op (.int .u32 ((Q3.encode (⟨16, (IntKind.wrap .i64 (3 + (d % 13))), 0, 0, (IntKind.wrap .u32 (n4 % 1000))⟩ : Q.I)).1)) ?_
            refine E.op (.int .u8 (IntKind.wrap .u8 ((Q3.encode (⟨16, (IntKind.wrap .i64 (3 + (d % 13))), 0, 0, (IntKind.wrap .u32 (n4 % 1000))⟩ : Q.I)).1))) ?_
            refine E.G.val (.bool true) (by kernel_rfl) (fun w h => E.run_as (a := .bool ((((Q.runs 3 (Q.sys n4 d) (Q.syV ⟨1, 0, 0, 0, 0⟩ d)).2.2.2).peek (8 : Int).toNat) == (IntKind.wrap .u8 ((Q3.encode (⟨16, (IntKind.wrap .i64 (3 + (d % 13))), 0, 0, (IntKind.wrap .u32 (n4 % 1000))⟩ : Q.I)).1)))) (by kernel_rfl) (congrArg Value.bool Q.y103b)) ?_
            refine E.op (.bool true) ?_
            refine E.op (.bool true) ?_
            refine E.To.code ?_
            refine E.C.weak [(6, .bool true)] [] ⟨by kernel_rfl, by kernel_rfl⟩ (List.nil_sublist _) ?_
            refine E.C.ret (E.To.body (fn := Try.f6) [.bool true] ?_ ?_)
            · exact ⟨⟨by kernel_rfl, by kernel_rfl⟩, trivial⟩
            · intro w h
              exact ⟨rfl, h.ch.bel (fun x hx => (hh.1 x hx).elim)⟩
theorem QcpuSyncs_law (n0 n1 n2 n3 n4 d : Int) (sy : Bool) (hn0 : -9223372036854775808 ≤ n0 ∧ n0 < 9223372036854775808) (hn1 : -9223372036854775808 ≤ n1 ∧ n1 < 9223372036854775808) (hn2 : -9223372036854775808 ≤ n2 ∧ n2 < 9223372036854775808) (hn3 : -9223372036854775808 ≤ n3 ∧ n3 < 9223372036854775808) (hn4 : -9223372036854775808 ≤ n4 ∧ n4 < 9223372036854775808) (hd : -9223372036854775808 ≤ d ∧ d < 9223372036854775808) (w : World) : Calls Try.prog 6 #[.agg #[.int .i64 n0, .int .i64 n1, .int .i64 n2, .int .i64 n3, .int .i64 n4], .int .i64 d, .bool sy] w fun e w' => e = .returned (.bool true) ∧ Bel w w' := by
  skip
  exact QcpuSyncs_rd n0 n1 n2 n3 n4 d sy hn4 hd w _ _ ⟨fun _ h => h, fun _ h => h⟩
end Go.Proofs.Ytgbndbljohpnmaa
