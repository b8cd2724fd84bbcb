/- Bits, arrays, functions that hold variables. No condition. -/
import Derived.Test.YtpamandneifemaaGbk
import Derived.ChangeKeysEq
import Derived.Laws.StructEq
namespace Go.Proofs.Ytpamandneifemaa
open Go Go.RowKit
set_option linter.unusedVariables false

section
variable {P : Program} {N : Nt} {Q : Exit → Act → World → Prop} {l : SF} {w : World} {ops : Array Oper} {rest : List Oper}
variable {ty : TypeId} {pos : String} {aft : Array Edge} {d : Nat} {CH : Array Obj → Prop}
variable {x y : Operand} {t t' e : TypeId} {gd : Option (Nat × Bool)} {dd : Option Nat}

theorem wrapU8 {n : Nat} (h : n < 256) : IntKind.u8.wrap (n : Int) = n := by
  show IntKind.wrap .u8 n = _
  simp [IntKind.wrap, IntKind.signed, IntKind.bits]; omega
theorem wrapU32 {n : Nat} (h : n < 4294967296) : IntKind.u32.wrap (n : Int) = n := by
  show IntKind.wrap .u32 n = _
  simp [IntKind.wrap, IntKind.signed, IntKind.bits]; omega
theorem bits8 {a : Nat} (h : a < 256) : (BitVec.ofInt 8 (a : Int)).toNat = a := by simp; omega
theorem bits32 {a : Nat} (h : a < 4294967296) : (BitVec.ofInt 32 (a : Int)).toNat = a := by simp; omega
theorem xor_lt8 {a b : Nat} (ha : a < 256) (hb : b < 256) : a ^^^ b < 256 := Nat.xor_lt_two_pow (n := 8) ha hb
theorem xor_lt32 {a b : Nat} (ha : a < 4294967296) (hb : b < 4294967296) : a ^^^ b < 4294967296 := Nat.xor_lt_two_pow (n := 32) ha hb
theorem run_xor8 {a b : Nat} (ha : a < 256) (hb : b < 256) (w : World) : (Op.intBits .xor .u8 (a : Int) (b : Int)).run P w = .ok (.int .u8 ((a ^^^ b : Nat) : Int)) w := by
  have h2 : (BitVec.ofInt 8 (a : Int) ^^^ BitVec.ofInt 8 (b : Int)).toNat = a ^^^ b := by rw [BitVec.toNat_xor, bits8 ha, bits8 hb]
  show (pure (Value.int .u8 (IntKind.u8.wrap ((BitVec.ofInt 8 (a : Int) ^^^ BitVec.ofInt 8 (b : Int)).toNat : Int))) : Sem Value).run P w = _
  rw [h2, wrapU8 (xor_lt8 ha hb)]; rfl
theorem run_xor32 {a b : Nat} (ha : a < 4294967296) (hb : b < 4294967296) (w : World) : (Op.intBits .xor .u32 (a : Int) (b : Int)).run P w = .ok (.int .u32 ((a ^^^ b : Nat) : Int)) w := by
  have h2 : (BitVec.ofInt 32 (a : Int) ^^^ BitVec.ofInt 32 (b : Int)).toNat = a ^^^ b := by rw [BitVec.toNat_xor, bits32 ha, bits32 hb]
  show (pure (Value.int .u32 (IntKind.u32.wrap ((BitVec.ofInt 32 (a : Int) ^^^ BitVec.ofInt 32 (b : Int)).toNat : Int))) : Sem Value).run P w = _
  rw [h2, wrapU32 (xor_lt32 ha hb)]; rfl
theorem Cm.xor8 {a b : Nat} (hx : evL l x = some (.int .u8 a)) (hy : evL l y = some (.int .u8 b)) (ha : a < 256) (hb : b < 256) : Cm P N CH l ⟨dd, .binOp .xor t x y t', ty, pos, aft, gd⟩ (.int .u8 ((a ^^^ b : Nat) : Int)) := fun c w hc _ => by
  simp [execOp, hc.ev hx, hc.ev hy, binOp, eqGuard]
  rw [run_xor8 ha hb]; rfl
theorem Cm.xor32 {a b : Nat} (hx : evL l x = some (.int .u32 a)) (hy : evL l y = some (.int .u32 b)) (ha : a < 4294967296) (hb : b < 4294967296) : Cm P N CH l ⟨dd, .binOp .xor t x y t', ty, pos, aft, gd⟩ (.int .u32 ((a ^^^ b : Nat) : Int)) := fun c w hc _ => by
  simp [execOp, hc.ev hx, hc.ev hy, binOp, eqGuard]
  rw [run_xor32 ha hb]; rfl
theorem Cm.and32 {a b : Nat} (hx : evL l x = some (.int .u32 a)) (hy : evL l y = some (.int .u32 b)) (ha : a < 4294967296) (hb : b < 4294967296) : Cm P N CH l ⟨dd, .binOp .and t x y t', ty, pos, aft, gd⟩ (.int .u32 ((a &&& b : Nat) : Int)) := fun c w hc _ => by
  have h1 : (a &&& b) < 4294967296 := Nat.lt_of_le_of_lt Nat.and_le_left ha
  have h2 : (BitVec.ofInt 32 (a : Int) &&& BitVec.ofInt 32 (b : Int)).toNat = a &&& b := by rw [BitVec.toNat_and, bits32 ha, bits32 hb]
  have h3 : (Op.intBits .and .u32 (a : Int) (b : Int)).run P w = .ok (.int .u32 ((a &&& b : Nat) : Int)) w := by
    show (pure (Value.int .u32 (IntKind.u32.wrap ((BitVec.ofInt 32 (a : Int) &&& BitVec.ofInt 32 (b : Int)).toNat : Int))) : Sem Value).run P w = _
    rw [h2, wrapU32 h1]; rfl
  simp [execOp, hc.ev hx, hc.ev hy, binOp, eqGuard]
  rw [h3]; rfl
theorem Cm.not8 {a : Nat} (hx : evL l x = some (.int .u8 a)) (ha : a < 256) : Cm P N CH l ⟨dd, .unOp .xor t x, ty, pos, aft, gd⟩ (.int .u8 ((255 ^^^ a : Nat) : Int)) := fun c w hc _ => by
  have h := run_xor8 (P := P) (show 255 < 256 by decide) ha w
  have h2 : (if IntKind.u8.signed = true then (-1 : Int) else IntKind.u8.max) = ((255 : Nat) : Int) := rfl
  simp only [execOp, hc.ev hx, Op.unary, h2, Sem.run_bind, h, Result.andThen_ok, Sem.run_pure]
theorem Cm.not32 {a : Nat} (hx : evL l x = some (.int .u32 a)) (ha : a < 4294967296) : Cm P N CH l ⟨dd, .unOp .xor t x, ty, pos, aft, gd⟩ (.int .u32 ((4294967295 ^^^ a : Nat) : Int)) := fun c w hc _ => by
  have h := run_xor32 (P := P) (show 4294967295 < 4294967296 by decide) ha w
  have h2 : (if IntKind.u32.signed = true then (-1 : Int) else IntKind.u32.max) = ((4294967295 : Nat) : Int) := rfl
  simp only [execOp, hc.ev hx, Op.unary, h2, Sem.run_bind, h, Result.andThen_ok, Sem.run_pure]
theorem Cm.shr32 {a n : Nat} {k' : IntKind} {m : Int} (hm : m = n) (hx : evL l x = some (.int .u32 a)) (hy : evL l y = some (.int k' m)) (hn : n ≤ 32) : Cm P N CH l ⟨dd, .binOp .shr t x y t', ty, pos, aft, gd⟩ (.int .u32 ((a / 2 ^ n : Nat) : Int)) := fun c w hc _ => by
  subst hm
  have h1 : ¬ ((n : Int) < 0) := by omega
  have h2 : min (n : Int).toNat 32 = n := by omega
  have h3 : (a : Int).fdiv (2 ^ n) = ((a / 2 ^ n : Nat) : Int) := by rw [Int.fdiv_eq_ediv_of_nonneg _ (Int.pow_nonneg (by decide))]; simp
  have h4 : ∀ w, (Op.shift .shr .u32 a k' n).run P w = .ok (.int .u32 ((a / 2 ^ n : Nat) : Int)) w := fun w => by
    unfold Op.shift
    rw [if_neg h1]
    show (pure (Value.int .u32 ((a : Int).fdiv (2 ^ min (n : Int).toNat 32))) : Sem Value).run P w = _
    rw [h2, h3]; rfl
  have h5 : ∀ w : World, (if (!false) = true then (pure () : Sem Unit) else pure ()).run P w = .ok () w := fun w => rfl
  simp only [execOp, hc.ev hx, hc.ev hy, eqGuard, binOp, Sem.run_bind, h5, h4, Result.andThen_ok, Sem.run_pure]
theorem andNot_bit {a : Nat} (h : a < 65536) : (BitVec.ofInt 64 (a : Int) &&& ~~~BitVec.ofInt 64 32768).toNat = a % 32768 := by
  apply Nat.eq_of_testBit_eq
  intro i
  rw [BitVec.testBit_toNat, BitVec.getLsbD_and, BitVec.getLsbD_not, show (32768 : Nat) = 2 ^ 15 from rfl, Nat.testBit_mod_two_pow]
  have e1 : (BitVec.ofInt 64 (a : Int)).getLsbD i = a.testBit i := by
    rw [← BitVec.testBit_toNat, bits_nat (by omega)]
  have e2 : (BitVec.ofInt 64 32768).getLsbD i = (2 ^ 15).testBit i := by
    rw [← BitVec.testBit_toNat]; rfl
  rw [e1, e2, Nat.testBit_two_pow]
  by_cases h15 : i < 15
  · have : ¬ (15 = i) := by omega
    simp [h15, this]; intro _; omega
  · by_cases hi : 15 = i
    · simp [hi]
    · have : a.testBit i = false := Nat.testBit_lt_two_pow (Nat.lt_of_lt_of_le h (Nat.pow_le_pow_right (n := 2) (by decide) (show 16 ≤ i by omega)))
      simp [this]
theorem Cm.andNot15 {a : Nat} (hx : evL l x = some (.int .i64 a)) (hy : evL l y = some (.int .i64 32768)) (ha : a < 65536) : Cm P N CH l ⟨dd, .binOp .andNot t x y t', ty, pos, aft, gd⟩ (.int .i64 ((a % 32768 : Nat) : Int)) := fun c w hc _ => by
  have h3 : (Op.intBits .andNot .i64 (a : Int) 32768).run P w = .ok (.int .i64 ((a % 32768 : Nat) : Int)) w := by
    show (pure (Value.int .i64 (IntKind.i64.wrap ((BitVec.ofInt 64 (a : Int) &&& ~~~BitVec.ofInt 64 32768).toNat : Int))) : Sem Value).run P w = _
    rw [andNot_bit ha, wrap64_id (by omega)]; rfl
  simp [execOp, hc.ev hx, hc.ev hy, binOp, eqGuard]
  rw [h3]; rfl

/-! arrays -/
structure ArrT (P : Program) (t e : TypeId) (n size : Nat) : Prop where
  und : P.underlying t = some (.array n e)
  size : (P.info? e).map (·.size) = some size
theorem ArrT.run_size {n size : Nat} (h : ArrT P t e n size) (w : World) : (sizeOf e).run P w = .ok size w := by
  obtain ⟨i, hi, h1⟩ := Option.map_eq_some_iff.1 h.size
  simp [sizeOf, typeInfo, hi, h1]
theorem Cm.indexArr {n size : Nat} {ad : Addr} {k : IntKind} {z : Int} (ht : ArrT P t e n size) (hx : evL l x = some (.pointer (some ad))) (hy : evL l y = some (.int k z)) (h : 0 ≤ z ∧ z < n) :
    Cm P N CH l ⟨dd, .indexAddr t x y, ty, pos, aft, gd⟩ (.pointer (some (ad.add (z.toNat * size)))) := fun a w ha _ => by
  simp only [execOp, ha.ev hx, ha.ev hy, Instr.indexAt, asIntOf, Instr.sureAddr, Sem.run_bind, run_underlying ht.und, Result.andThen_ok, Sem.run_pure, ht.run_size w, if_pos h]
theorem Cm.sliceArr {n size b : Nat} (ht : ArrT P t e n size) (hx : evL l x = some (.pointer (some ⟨b, 0, none⟩))) : Cm P N CH l ⟨dd, .slice t x none none none, ty, pos, aft, gd⟩ (.slice (some ⟨b, 0, none⟩) n n) := fun a w ha _ => by
  simp [execOp, ha.ev hx, Instr.sliceAt, run_underlying ht.und, Instr.sureAddr, ht.run_size w, Instr.sliceBounds, Addr.add_lit]

theorem Cm.buildArr {n size : Nat} {parts : List (Nat × Operand)} {vs : List (Nat × Value)} {zc cs : Array Value} (ht : ArrT P t e n size) (hz : (P.info? t).map (fun i => i.zero.map (·.cells)) = some (some zc))
    (hx : evPs l parts = some vs) (hf : Instr.fill (fun i => some (i * size, size)) zc vs = some cs) : Cm P N CH l ⟨dd, .build t parts.toArray, ty, pos, aft, gd⟩ (.agg cs) := fun a w ha _ => by
  obtain ⟨i, hi, h1⟩ := Option.map_eq_some_iff.1 hz
  obtain ⟨z, hz', rfl⟩ := Option.map_eq_some_iff.1 h1
  have hv := ha.evPs hx
  simp only [execOp, Instr.build, Sem.run_bind, zeroValue, typeInfo, run_program, Result.andThen_ok, hi, hz', run_underlying ht.und, Sem.run_pure, ht.run_size w, List.map_toArray, hv]
  rw [hf]
  simp

theorem items_u8 (he : P.underlying e = some (.int .u8)) (hc : P.cellsOf e = 1) (d : Nat) (xs ys : List UInt8) (w : World) : ∀ is : List Nat, (∀ i ∈ is, i < xs.length ∧ i < ys.length) →
    ∃ r, (Op.eqItems (d + 1) e (P.cellsOf e) (xs.map b8).toArray (ys.map b8).toArray is).run P w = .ok r w ∧ (r = true ↔ ∀ i ∈ is, xs[i]? = ys[i]?)
  | [], _ => ⟨true, by simp [Op.eqItems], by simp⟩
  | i :: r, h => by
    obtain ⟨q, hq, hq2⟩ := items_u8 he hc d xs ys w r (fun j hj => h j (by simp [hj]))
    obtain ⟨h1, h2⟩ := h i (by simp)
    have hag : (isAgg e).run P w = .ok false w := by
      unfold isAgg
      rw [Sem.run_bind, run_underlying he w]; simp
    have hp : ∀ l : List UInt8, (hl : i < l.length) → (part e (l.map b8).toArray (i * P.cellsOf e)).run P w = .ok (b8 l[i]) w := fun l hl => by
      unfold part
      rw [Sem.run_bind, hag, hc]; simp [hl]
    have hr : (Op.equalIn (d + 1) e (b8 xs[i]) (b8 ys[i])).run P w = .ok ((xs[i].toNat : Int) == (ys[i].toNat : Int)) w := run_equalIn_int (P := P) w d e .u8 .u8 (xs[i].toNat : Int) (ys[i].toNat : Int) he
    refine ⟨((xs[i].toNat : Int) == (ys[i].toNat : Int)) && q, ?_, ?_⟩
    · simp only [Op.eqItems, Sem.run_bind, hp xs h1, hp ys h2, Result.andThen_ok, hr]
      cases ((xs[i].toNat : Int) == (ys[i].toNat : Int))
      · simp
      · simpa using hq
    · rw [Bool.and_eq_true, hq2]
      have : ((xs[i].toNat : Int) == (ys[i].toNat : Int)) = true ↔ xs[i]? = ys[i]? := by
        rw [beq_iff_eq, List.getElem?_eq_getElem h1, List.getElem?_eq_getElem h2]
        constructor
        · intro h3; congr 1; exact UInt8.toNat_inj.1 (by omega)
        · intro h3; rw [Option.some.inj h3]
      rw [this]
      simp
theorem Cm.eqlArrB {n : Nat} {xs ys : List UInt8} (hu : P.underlying t = some (.array n e)) (hi : (P.info? e).isSome = true) (he : P.underlying e = some (.int .u8)) (hc : P.cellsOf e = 1) (hg : P.eqGuardType P.depth t = false)
    (hx : evL l x = some (.agg (xs.map b8).toArray)) (hy : evL l y = some (.agg (ys.map b8).toArray)) (h1 : xs.length = n) (h2 : ys.length = n) : Cm P N CH l ⟨dd, .binOp .eql t x y t', ty, pos, aft, gd⟩ (.bool (decide (xs = ys))) := fun a w ha _ => by
  obtain ⟨i, hi⟩ := Option.isSome_iff_exists.1 hi
  have g1 := run_eqGuard_agg (P := P) w .eql t x y (xs.map b8).toArray (ys.map b8).toArray hg
  have g2 := run_eql_struct (P := P) w t (xs.map b8).toArray (ys.map b8).toArray
  rw [run_equalIn_array w 9999 _ _ hu hi] at g2
  obtain ⟨r, hr, hr2⟩ := items_u8 he hc 9998 xs ys w (List.range n) (fun j hj => by have := List.mem_range.1 hj; omega)
  rw [hr] at g2
  have e1 : r = decide (xs = ys) := by
    rw [Bool.eq_iff_iff, hr2, decide_eq_true_iff]
    constructor
    · intro h
      apply List.ext_getElem?
      intro j
      by_cases hj : j < n
      · exact h j (List.mem_range.2 hj)
      · rw [List.getElem?_eq_none (by omega), List.getElem?_eq_none (by omega)]
    · rintro rfl j _; rfl
  simp only [execOp, ha.ev hx, ha.ev hy, Sem.run_bind, g1, g2, Result.andThen_ok, Sem.run_pure, e1]
/-- a slice of an array's length: the array's address -/
theorem Cm.arrPtr0 {ad : Addr} {n len cap : Nat} (ht : P.underlying t = some (.array n e)) (hx : evL l x = some (.slice (some ad) len cap)) (hl : n ≤ len) : Cm P N CH l ⟨dd, .sliceToArrayPointer t x, ty, pos, aft, gd⟩ (.pointer (some ad)) := fun a w ha _ => by
  simp only [execOp, ha.ev hx, Instr.arrayAt, Sem.run_bind, run_underlying ht, Result.andThen_ok]
  rw [if_neg (by omega)]
  simp
theorem At.ret5 {M : Nat} {fn : Func} {R : Ending → World → Prop} {t1 t2 t3 t4 t5 : Nat} {v1 v2 v3 v4 v5 : Value} (hr : fn.results = #[.tmp t1, .tmp t2, .tmp t3, .tmp t4, .tmp t5]) (h1 : lk l t1 = some v1) (h2 : lk l t2 = some v2) (h3 : lk l t3 = some v3) (h4 : lk l t4 = some v4) (h5 : lk l t5 = some v5)
    (h : R (.returned (.tuple #[v1, v2, v3, v4, v5])) w) : At ⟨M, []⟩ .ret (bodyPost P fn R) l w := fun a ha => by
  refine ⟨ha.dfr, _, ?_, h⟩
  simp [results, hr, ha.has t1 v1 h1, ha.has t2 v2 h2, ha.has t3 v3 h3, ha.has t4 v4 h4, ha.has t5 v5 h5]

/-! functions that hold variables -/
theorem Cm.makeFunc {f : Fn} {cs : List Operand} {vs : List Value} (hx : evLs l cs = some vs) : Cm P N CH l ⟨dd, .makeFunc f #[] cs.toArray, ty, pos, aft, gd⟩ (.func f #[] vs.toArray) := fun a w ha _ => by
  have := ha.evs hx
  simp [execOp, Instr.makeFunc]
  rw [← this]
theorem Sl.callC {f : FuncId} {xs : List Operand} {vs cs : List Value} {ts : Array TypeId} (hf : fnB P f = true) (hc0 : evL l x = some (.func (.func f) #[] cs.toArray)) (hx : evLs l xs = some vs) {R : Value → World → Prop} (hc : Calls P f (vs ++ cs).toArray w (Ret R)) (hd : Nat.blt d N.n = true)
    (h : ∀ v w', R v w' → Sl P N ops Q rest ((d, v) :: l) w') :
    Sl P N ops Q (⟨some d, .call ⟨.value x, xs.toArray, ts⟩, ty, pos, aft, none⟩ :: rest) l w := fun a ha => by
  unfold wpList
  rw [if_pos (by simp [Region.wanted])]
  refine .inl ?_
  unfold Oper.wp
  have h1 := ha.ev hc0
  have h2 : (execOp a.eval ⟨some d, .call ⟨.value x, xs.toArray, ts⟩, ty, pos, aft, none⟩).run P w = .ok (.enter f (vs ++ cs).toArray) w := by
    have h3 := ha.evs hx
    simp [execOp, resolve, h1, Deferred.ofValue, invoke, run_callFunc_fnB hf]
    rw [← h3]
  rw [h2]
  refine hc.mono ?_
  rintro e w' ⟨v, rfl, hR⟩
  exact h v w' hR _ (ha.put hd v)
/-- one result: a struct in a cell -/
theorem At.retC1 {M : Nat} {fn : Func} {R : Ending → World → Prop} {a : Nat} {cs : List Value} {ad : Addr} (hr : fn.results = #[.cell a t]) (ht : aggB P t cs.length = true) (ha : lk l a = some (.pointer (some ad)))
    (hc : ∀ j v, cs[j]? = some v → cellH w.heap (ad.add j) = some v) (h : R (.returned (.agg cs.toArray)) w) :
    At ⟨M, []⟩ .ret (bodyPost P fn R) l w := fun act ha' => by
  refine ⟨ha'.dfr, _, ?_, h⟩
  have h1 := ha'.has a _ ha
  have h3 := run_loadVar (P := P) (w := w) ht hc
  simp [results, hr, h1, asAddr, h3]
end
end Go.Proofs.Ytpamandneifemaa
