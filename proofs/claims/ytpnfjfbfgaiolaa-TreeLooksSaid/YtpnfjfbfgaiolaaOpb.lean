/- More operations: shifts, bits, strings, bools, bytes of a string. No condition. -/
import Derived.Test.YtpnfjfbfgaiolaaEfb
import Derived.Lib.Bytealg
import Derived.Lib.ConvBytes
import Derived.Laws.Small
import Derived.Laws.StructEq
namespace Go.Proofs.Ytpnfjfbfgaiolaa
open Go Go.RowKit

section
variable {P : Program} {N : Nt} {Q : Exit → Act → World → Prop} {l : SF} {w : World} {ops : Array Oper} {rest : List Oper}
variable {op : Op} {ty : TypeId} {pos : String} {aft : Array Edge} {d : Nat} {v : Value} {CH : Array Obj → Prop}
variable {x y : Operand} {t t' : TypeId} {g : Option (Nat × Bool)} {dd : Option Nat} {k k' : IntKind} {m n : Int}

theorem Cm.shr (hx : evL l x = some (.int .i64 m)) (hy : evL l y = some (.int k' n)) (hn : 0 ≤ n ∧ n ≤ 64) : Cm P N CH l ⟨dd, .binOp .shr t x y t', ty, pos, aft, g⟩ (.int .i64 (m / 2 ^ n.toNat)) := fun a w ha _ => by
  have h1 : ¬ (n < 0) := by omega
  have h2 : min n.toNat 64 = n.toNat := by omega
  have h3 : m.fdiv (2 ^ n.toNat) = m / 2 ^ n.toNat := Int.fdiv_eq_ediv_of_nonneg _ (Int.pow_nonneg (by decide))
  have h4 : (Op.shift .shr .i64 m k' n).run P w = .ok (.int .i64 (m / 2 ^ n.toNat)) w := by
    unfold Op.shift
    rw [if_neg h1]
    show (pure (Value.int .i64 (m.fdiv (2 ^ min n.toNat 64))) : Sem Value).run P w = _
    rw [h2, h3]; rfl
  simp only [execOp, ha.ev hx, ha.ev hy, eqGuard, binOp, Sem.run_bind]
  simp
theorem Cm.shlW (hx : evL l x = some (.int .i64 m)) (hy : evL l y = some (.int k' n)) (hn : 0 ≤ n ∧ n ≤ 64) : Cm P N CH l ⟨dd, .binOp .shl t x y t', ty, pos, aft, g⟩ (.int .i64 (IntKind.i64.wrap (m * 2 ^ n.toNat))) := fun a w ha _ => by
  have h1 : ¬ (n < 0) := by omega
  have h2 : min n.toNat 64 = n.toNat := by omega
  have h4 : (Op.shift .shl .i64 m k' n).run P w = .ok (.int .i64 (IntKind.i64.wrap (m * 2 ^ n.toNat))) w := by
    unfold Op.shift
    rw [if_neg h1]
    show (pure (Value.int .i64 (IntKind.i64.wrap (m * 2 ^ min n.toNat 64))) : Sem Value).run P w = _
    rw [h2]; rfl
  simp only [execOp, ha.ev hx, ha.ev hy, eqGuard, binOp, Sem.run_bind]
  simp
theorem Cm.shl64 (hx : evL l x = some (.int .i64 m)) (hy : evL l y = some (.int k' n)) (hn : 0 ≤ n ∧ n ≤ 64) (hb : -9223372036854775808 ≤ m * 2 ^ n.toNat ∧ m * 2 ^ n.toNat ≤ 9223372036854775807) :
    Cm P N CH l ⟨dd, .binOp .shl t x y t', ty, pos, aft, g⟩ (.int .i64 (m * 2 ^ n.toNat)) := by
  have := @Cm.shlW P N l ty pos aft CH x y t t' g dd k' m n hx hy hn
  rwa [wrap64_id hb] at this

theorem bits_nat {a : Nat} (h : a < 2 ^ 63) : (BitVec.ofInt 64 (a : Int)).toNat = a := by
  simp; omega
theorem Cm.orN {a b : Nat} (hx : evL l x = some (.int .i64 a)) (hy : evL l y = some (.int .i64 b)) (ha : a < 2 ^ 63) (hb : b < 2 ^ 63) : Cm P N CH l ⟨dd, .binOp .or t x y t', ty, pos, aft, g⟩ (.int .i64 ((a ||| b : Nat) : Int)) := fun c w hc _ => by
  have h1 : (a ||| b) < 2 ^ 63 := Nat.or_lt_two_pow ha hb
  have h2 : (BitVec.ofInt 64 (a : Int) ||| BitVec.ofInt 64 (b : Int)).toNat = a ||| b := by
    rw [BitVec.toNat_or, bits_nat ha, bits_nat hb]
  have h3 : (Op.intBits .or .i64 (a : Int) (b : Int)).run P w = .ok (.int .i64 ((a ||| b : Nat) : Int)) w := by
    show (pure (Value.int .i64 (IntKind.i64.wrap ((BitVec.ofInt 64 (a : Int) ||| BitVec.ofInt 64 (b : Int)).toNat : Int))) : Sem Value).run P w = _
    rw [h2, wrap64_id (by omega)]; rfl
  simp [execOp, hc.ev hx, hc.ev hy, binOp, eqGuard]
  rw [h3]; rfl
theorem Cm.andN {a b : Nat} (hx : evL l x = some (.int .i64 a)) (hy : evL l y = some (.int .i64 b)) (ha : a < 2 ^ 63) (hb : b < 2 ^ 63) : Cm P N CH l ⟨dd, .binOp .and t x y t', ty, pos, aft, g⟩ (.int .i64 ((a &&& b : Nat) : Int)) := fun c w hc _ => by
  have h1 : (a &&& b) < 2 ^ 63 := Nat.lt_of_le_of_lt Nat.and_le_left ha
  have h2 : (BitVec.ofInt 64 (a : Int) &&& BitVec.ofInt 64 (b : Int)).toNat = a &&& b := by
    rw [BitVec.toNat_and, bits_nat ha, bits_nat hb]
  have h3 : (Op.intBits .and .i64 (a : Int) (b : Int)).run P w = .ok (.int .i64 ((a &&& b : Nat) : Int)) w := by
    show (pure (Value.int .i64 (IntKind.i64.wrap ((BitVec.ofInt 64 (a : Int) &&& BitVec.ofInt 64 (b : Int)).toNat : Int))) : Sem Value).run P w = _
    rw [h2, wrap64_id (by omega)]; rfl
  simp [execOp, hc.ev hx, hc.ev hy, binOp, eqGuard]
  rw [h3]; rfl

/-! strings -/
theorem Cm.lssBs {a b : List UInt8} (hx : evL l x = some (.string (bs a))) (hy : evL l y = some (.string (bs b))) : Cm P N CH l ⟨dd, .binOp .lss t x y t', ty, pos, aft, g⟩ (.bool (Op.bytesLess a b)) := fun c w ha _ => by
  simp [execOp, ha.ev hx, ha.ev hy, eqGuard, binOp, Op.stringOp, bs_toList]
theorem Cm.leqBs {a b : List UInt8} (hx : evL l x = some (.string (bs a))) (hy : evL l y = some (.string (bs b))) : Cm P N CH l ⟨dd, .binOp .leq t x y t', ty, pos, aft, g⟩ (.bool (Op.bytesLess a b || a == b)) := fun c w ha _ => by
  simp [execOp, ha.ev hx, ha.ev hy, eqGuard, binOp, Op.stringOp, bs_toList]
theorem Cm.gtrBs {a b : List UInt8} (hx : evL l x = some (.string (bs a))) (hy : evL l y = some (.string (bs b))) : Cm P N CH l ⟨dd, .binOp .gtr t x y t', ty, pos, aft, g⟩ (.bool (!(Op.bytesLess a b || a == b))) := fun c w ha _ => by
  simp [execOp, ha.ev hx, ha.ev hy, eqGuard, binOp, Op.stringOp, bs_toList]
theorem Cm.geqBs {a b : List UInt8} (hx : evL l x = some (.string (bs a))) (hy : evL l y = some (.string (bs b))) : Cm P N CH l ⟨dd, .binOp .geq t x y t', ty, pos, aft, g⟩ (.bool (!Op.bytesLess a b)) := fun c w ha _ => by
  simp [execOp, ha.ev hx, ha.ev hy, eqGuard, binOp, Op.stringOp, bs_toList]
theorem Cm.lenBs (ht : P.underlying t = some .string) {s : List UInt8} (hx : evL l x = some (.string (bs s))) :
    Cm P N CH l ⟨dd, .call ⟨.builtin .len, #[x], #[t]⟩, ty, pos, aft, g⟩ (.int .i64 s.length) := by
  have := @Cm.lenS P N l ty pos aft CH x t g dd ht (bs s) hx
  rwa [bs_size] at this
theorem Cm.idxS (ht : P.underlying t = some .string) {s : List UInt8} (hx : evL l x = some (.string (bs s))) (hy : evL l y = some (.int k n)) (hn : 0 ≤ n ∧ n < s.length) :
    Cm P N CH l ⟨dd, .index t x y, ty, pos, aft, g⟩ (b8 (s.getD n.toNat 0)) := fun c w ha _ => by
  have h1 : n.toNat < s.length := by omega
  have h2 : n.toNat < (bs s).size := by rw [bs_size]; exact h1
  have h3 : (bs s)[n.toNat]? = some (s.getD n.toNat 0) := by
    rw [getElem?_pos (bs s) n.toNat h2]
    have : (bs s)[n.toNat] = s[n.toNat] := rfl
    rw [this, List.getD, List.getElem?_eq_getElem h1]; rfl
  simp [execOp, ha.ev hx, ha.ev hy, Instr.index, asIntOf, run_underlying ht, hn.1, h3, b8]
theorem Cm.strConv (hs : P.underlying t = some .string) (hd : P.underlying t' = some .string) {s : ByteArray} (hx : evL l x = some (.string s)) : Cm P N CH l ⟨dd, .convert t t' x, ty, pos, aft, g⟩ (.string s) := fun c w ha _ => by
  simp [execOp, ha.ev hx, convert, run_underlying hs, run_underlying hd]
theorem Cm.catBs {a b : List UInt8} (hx : evL l x = some (.string (bs a))) (hy : evL l y = some (.string (bs b))) (hl : a.length + b.length ≤ 9223372036854775807) : Cm P N CH l ⟨dd, .binOp .add t x y t', ty, pos, aft, g⟩ (.string (bs (a ++ b))) := fun c w ha _ => by
  have h1 : bs a ++ bs b = bs (a ++ b) := by
    apply ByteArray.ext; simp [bs, ByteArray.data_append]
  have h2 : ¬ (((bs a).size + (bs b).size : Nat) : Int) > IntKind.i64.max := by
    rw [bs_size, bs_size]; show ¬ (_ > (9223372036854775807 : Int)); omega
  simp only [execOp, ha.ev hx, ha.ev hy, binOp, Op.stringOp, if_neg h2]
  simp [eqGuard, h1]

/-- strings.IndexByte below: a function that the model stands in for -/
structure IbT (P : Program) (f : FuncId) : Prop where
  fn : ∃ fn, P.funcs[f]? = some fn ∧ (fn.name == "runtime.NumGoroutine") = false ∧ fn.body.isNone = true ∧ Extern.findNext fn = none ∧ Extern.find fn = some Extern.BytealgIndexByte.indexByte
theorem IbT.mk' {P : Program} {f : FuncId} {fn : Func} (h0 : P.funcs[f]? = some fn) (h1 : (fn.name == "runtime.NumGoroutine") = false) (h2 : fn.body.isNone = true) (h3 : Extern.findNext fn = none) (h4 : Extern.find fn = some Extern.BytealgIndexByte.indexByte) : IbT P f := ⟨fn, h0, h1, h2, h3, h4⟩
theorem Cm.indexByte {f : FuncId} {ts : Array TypeId} (hf : IbT P f) {s : List UInt8} {c : Int} (hx : evL l x = some (.string (bs s))) (hy : evL l y = some (.int .u8 c)) :
    Cm P N CH l ⟨dd, .call ⟨.value (.func f), #[x, y], ts⟩, ty, pos, aft, g⟩ (.int .i64 (Lib.indexByte s c.toNat.toUInt8)) := fun a w ha _ => by
  obtain ⟨fn, h0, h1, h2, h3, h4⟩ := hf
  have hr := run_callFunc_extern h0 h1 h2 h3 h4 #[.string (bs s), .int .u8 c] w
  rw [Lib.run_indexByteString] at hr
  simp only [Result.andThen_ok] at hr
  rw [← ha.ev hx, ← ha.ev hy] at hr
  simp [execOp, resolve, Act.eval, Deferred.ofValue, invoke] at hr ⊢
  rw [hr]; rfl
theorem indexByte_neg (s : List UInt8) (c : UInt8) : Lib.indexByte s c < 0 ↔ c ∉ s := by
  induction s with
  | nil => simp [Lib.indexByte]
  | cons b r ih =>
    have hge := Lib.indexByte_ge r c
    unfold Lib.indexByte
    by_cases h : b = c
    · simp [h]
    · simp only [beq_iff_eq, h, if_false, List.mem_cons, not_or]
      split
      · rename_i h1
        rw [h1] at ih
        have := ih.1 (by decide)
        exact ⟨fun _ => ⟨fun e => h e.symm, this⟩, fun _ => by decide⟩
      · rename_i h1
        constructor
        · intro h2; omega
        · intro h2
          have := ih.2 h2.2
          omega

/-! bools -/
theorem Cm.eqlBool (ht : P.underlying t = some .bool) {a b : Bool} (hx : evL l x = some (.bool a)) (hy : evL l y = some (.bool b)) : Cm P N CH l ⟨dd, .binOp .eql t x y t', ty, pos, aft, g⟩ (.bool (a == b)) := fun c w ha _ => by
  simp [execOp, ha.ev hx, ha.ev hy, eqGuard, binOp, run_equal_bool w t a b ht]
theorem Cm.neqBool (ht : P.underlying t = some .bool) {a b : Bool} (hx : evL l x = some (.bool a)) (hy : evL l y = some (.bool b)) : Cm P N CH l ⟨dd, .binOp .neq t x y t', ty, pos, aft, g⟩ (.bool (a != b)) := fun c w ha _ => by
  simp [execOp, ha.ev hx, ha.ev hy, eqGuard, binOp, run_equal_bool w t a b ht, bne]

/-! bytes of a string; a slice of bytes that is marked -/
theorem Sl.bytesOf {e : TypeId} {size bytes : Nat} (hs : P.underlying t = some .string) (ht : SliceT P t' e size bytes) (he : P.underlying e = some (.int .u8)) {s : List UInt8} (hx : evL l x = some (.string (bs s))) (hl : s.length ≤ maxLen) (hd : Nat.blt d N.n = true)
    (h : ∀ w' cap, Vw b8 w'.heap (some ⟨w.heap.size, 0, none⟩) cap s → w'.heap.size = w.heap.size + 1 → Foot nob w w' → Sl P N ops Q rest ((d, .slice (some ⟨w.heap.size, 0, none⟩) s.length cap) :: l) w') :
    Sl P N ops Q (⟨some d, .convert t t' x, ty, pos, aft, none⟩ :: rest) l w := by
  have hr := Lib.run_convert_string_bytes (P := P) w t t' e (bs s) hs ht.und he
  rw [bs_size] at hr
  refine Sl.eff (w' := Lib.bytesWorld w e (bs s)) (fun a ha => ?_) hd (h _ (grownCap w s.length 0 e) ⟨grownCap_ge w _ _ _, grownCap_le_maxLen w _ _ e hl, fun _ => by simp, fun i u hu => ?_⟩ (Lib.bytesWorld_size _ _ _) ?_)
  · simp [execOp, ha.ev hx, hr]
  · have hi : i < s.length := (List.getElem?_eq_some_iff.1 hu).1
    have e1 : adr (some (⟨w.heap.size, 0, none⟩ : Addr)) i = ⟨w.heap.size, i, none⟩ := by
      show (⟨w.heap.size, 0, none⟩ : Addr).add _ = _
      rw [Addr.add_lit, Nat.zero_add]
    rw [e1, ← cell?_eq, Lib.bytesWorld_cell w e (bs s) i (by rw [bs_size]; exact hi)]
    simp [bs, hu, b8]
  · refine ⟨rfl, rfl, rfl, by rw [Lib.bytesWorld_size]; omega, fun k hk _ => Lib.bytesWorld_at_old w e _ k hk⟩

theorem Sl.markB {e : TypeId} {size bytes : Nat} (ht : SliceT P t e size bytes) (he : P.underlying e = some (.int .u8)) {a : Nat} {cap : Nat} {xs : List UInt8} {cur : Array Value} (hx : evL l x = some (.slice (some ⟨a, 0, none⟩) xs.length cap))
    (hg : w.heap[a]? = some (.cells cur e (0, 0))) (hv : Vw b8 w.heap (some ⟨a, 0, none⟩) cap xs) (hd : Nat.blt d N.n = true)
    (h : ∀ w', Vw b8 w'.heap (some ⟨a, 0, none⟩) cap xs → w'.heap.size = w.heap.size → Foot (· = a) w w' → Sl P N ops Q rest ((d, .slice (some ⟨a, 0, none⟩) xs.length cap) :: l) w') :
    Sl P N ops Q (⟨some d, .convert t t x, ty, pos, aft, none⟩ :: rest) l w := by
  have hsh : w.shape? a = some (e, cur.size) := by simp [World.shape?, hg]
  have hlt := (Array.getElem?_eq_some_iff.1 hg)
  obtain ⟨hal, hge⟩ := hlt
  refine Sl.eff (w' := w.freeze ⟨a, cur.size, none⟩ 1) (fun c hc => ?_) hd (h _ ⟨hv.le, hv.max, hv.non, fun i u hu => ?_⟩ ?_ ?_)
  · simp [execOp, hc.ev hx, convert, run_underlying ht.und, run_underlying he, markStringish, hsh]
  · have h1 := hv.get i u hu
    have e1 : adr (some (⟨a, 0, none⟩ : Addr)) i = ⟨a, i, none⟩ := by
      show (⟨a, 0, none⟩ : Addr).add _ = _
      rw [Addr.add_lit, Nat.zero_add]
    rw [e1] at h1 ⊢
    have h2 : (w.freeze ⟨a, cur.size, none⟩ 1).heap[a]? = some (.cells cur e (cur.size, cur.size + 1)) := by
      simp [World.freeze, Array.getElem?_modify, hg]
    unfold cellH at h1 ⊢
    rw [hg] at h1
    rw [h2]
    exact h1
  · simp [World.freeze]
  · exact ⟨rfl, rfl, rfl, by simp [World.freeze], fun k hk hn => by
      simp [World.freeze, Array.getElem?_modify, Ne.symm hn]⟩
end
end Go.Proofs.Ytpnfjfbfgaiolaa
