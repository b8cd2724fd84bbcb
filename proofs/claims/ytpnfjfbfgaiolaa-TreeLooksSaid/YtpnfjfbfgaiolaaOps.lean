/- One lemma for each operation, over frames as association lists. No condition. -/
import Derived.Test.YtpnfjfbfgaiolaaBase
namespace Go.Proofs.Ytpnfjfbfgaiolaa
open Go Go.RowKit

def cellH (H : Array Obj) (a : Addr) : Option Value :=
  match H[a.block]? with
  | some (.cells c _ _) => if a.spot.isSome then none else c[a.off]?
  | _ => none
theorem cell?_eq (w : World) (a : Addr) : w.cell? a = cellH w.heap a := rfl

/-- An operation that only computes or reads: of every frame that holds l, over every heap of the class. -/
def Cm (P : Program) (N : Nt) (CH : Array Obj → Prop) (l : SF) (o : Oper) (v : Value) : Prop :=
  ∀ a w, HasL N l a → CH w.heap → (execOp a.eval o).run P w = .ok (.value v) w

def skipB : Value → Bool → Bool
  | .bool c, b => c != b
  | .tuple _, _ => true
  | _, _ => false

section
variable {P : Program} {N : Nt} {Q : Exit → Act → World → Prop} {l : SF} {w : World} {ops : Array Oper} {rest : List Oper}
variable {op : Op} {ty : TypeId} {pos : String} {aft : Array Edge} {d : Nat} {v : Value} {CH : Array Obj → Prop}

theorem Sl.calm (hv : Cm P N (· = w.heap) l ⟨some d, op, ty, pos, aft, none⟩ v) (hd : Nat.blt d N.n = true) (h : Sl P N ops Q rest ((d, v) :: l) w) :
    Sl P N ops Q (⟨some d, op, ty, pos, aft, none⟩ :: rest) l w := fun a ha => by
  unfold wpList
  rw [if_pos (by simp [Region.wanted])]
  refine .inl ?_
  unfold Oper.wp
  rw [hv a w ha rfl]
  exact h _ (ha.put hd v)

theorem yielded_of {a : Act} (ha : HasL N l a) {j s : Nat} {u : Value} (hj : (ops[j]?).bind (·.dst) = some s) (hs : lk l s = some u) :
    yielded ops a.tmps j = (match u with | .bool b => some b | _ => none) := by
  unfold yielded
  rw [hj]
  simp only [Option.bind_some, ha.has s u hs]
  cases u <;> rfl

theorem Sl.want {j s : Nat} {b : Bool} (hj : (ops[j]?).bind (·.dst) = some s) (hs : lk l s = some (.bool b))
    (hv : Cm P N (· = w.heap) l ⟨some d, op, ty, pos, aft, some (j, b)⟩ v) (hd : Nat.blt d N.n = true) (h : Sl P N ops Q rest ((d, v) :: l) w) :
    Sl P N ops Q (⟨some d, op, ty, pos, aft, some (j, b)⟩ :: rest) l w := fun a ha => by
  unfold wpList
  rw [if_pos (by simp [Region.wanted, yielded_of ha hj hs])]
  refine .inl ?_
  unfold Oper.wp
  rw [hv a w ha rfl]
  exact h _ (ha.put hd v)

theorem Sl.fork {p : Prop} [Decidable p] (hv : Cm P N (· = w.heap) l ⟨some d, op, ty, pos, aft, none⟩ (.bool (decide p))) (hd : Nat.blt d N.n = true)
    (h1 : p → Sl P N ops Q rest ((d, .bool true) :: l) w) (h2 : ¬ p → Sl P N ops Q rest ((d, .bool false) :: l) w) :
    Sl P N ops Q (⟨some d, op, ty, pos, aft, none⟩ :: rest) l w := by
  by_cases h : p
  · rw [decide_eq_true h] at hv; exact Sl.calm hv hd (h1 h)
  · rw [decide_eq_false h] at hv; exact Sl.calm hv hd (h2 h)
theorem Sl.forkWant {p : Prop} [Decidable p] {j s : Nat} {b : Bool} (hj : (ops[j]?).bind (·.dst) = some s) (hs : lk l s = some (.bool b))
    (hv : Cm P N (· = w.heap) l ⟨some d, op, ty, pos, aft, some (j, b)⟩ (.bool (decide p))) (hd : Nat.blt d N.n = true)
    (h1 : p → Sl P N ops Q rest ((d, .bool true) :: l) w) (h2 : ¬ p → Sl P N ops Q rest ((d, .bool false) :: l) w) :
    Sl P N ops Q (⟨some d, op, ty, pos, aft, some (j, b)⟩ :: rest) l w := by
  by_cases h : p
  · rw [decide_eq_true h] at hv; exact Sl.want hj hs hv hd (h1 h)
  · rw [decide_eq_false h] at hv; exact Sl.want hj hs hv hd (h2 h)

theorem Sl.skip {j s : Nat} {b : Bool} {u : Value} (hj : (ops[j]?).bind (·.dst) = some s) (hs : lk l s = some u) (hb : skipB u b = true) (hd : Nat.blt d N.n = true)
    (h : Sl P N ops Q rest ((d, undef) :: l) w) :
    Sl P N ops Q (⟨some d, op, ty, pos, aft, some (j, b)⟩ :: rest) l w := fun a ha => by
  unfold wpList
  rw [if_neg (by
    simp only [Region.wanted, yielded_of ha hj hs]
    cases u <;> simp_all [skipB])]
  exact h _ (ha.put hd undef)

/-! ### operations that compute -/
section
variable {x y : Operand} {t t' : TypeId} {g : Option (Nat × Bool)} {dd : Option Nat}
variable {k k' : IntKind} {m n : Int}

theorem Cm.move (hx : evL l x = some v) : Cm P N CH l ⟨dd, .move x, ty, pos, aft, g⟩ v := fun a w ha _ => by simp [execOp, ha.ev hx]
theorem Cm.assign (hx : evL l x = some v) : Cm P N CH l ⟨dd, .assign x, ty, pos, aft, g⟩ v := fun a w ha _ => by simp [execOp, ha.ev hx]
theorem Cm.pick_t {c : Operand} (hc : evL l c = some (.bool true)) (hx : evL l x = some v) : Cm P N CH l ⟨dd, .pick c x y, ty, pos, aft, g⟩ v := fun a w ha _ => by
  simp [execOp, ha.ev hc, ha.ev hx, asBool]
theorem Cm.pick_f {c : Operand} (hc : evL l c = some (.bool false)) (hy : evL l y = some v) : Cm P N CH l ⟨dd, .pick c x y, ty, pos, aft, g⟩ v := fun a w ha _ => by
  simp [execOp, ha.ev hc, ha.ev hy, asBool]

theorem Cm.addW (hx : evL l x = some (.int k m)) (hy : evL l y = some (.int k n)) : Cm P N CH l ⟨dd, .binOp .add t x y t', ty, pos, aft, g⟩ (.int k (k.wrap (m + n))) := fun a w ha _ => by
  simp [execOp, ha.ev hx, ha.ev hy, eqGuard, binOp, Op.intArith]
theorem Cm.subW (hx : evL l x = some (.int k m)) (hy : evL l y = some (.int k n)) : Cm P N CH l ⟨dd, .binOp .sub t x y t', ty, pos, aft, g⟩ (.int k (k.wrap (m - n))) := fun a w ha _ => by
  simp [execOp, ha.ev hx, ha.ev hy, eqGuard, binOp, Op.intArith]
theorem Cm.mulW (hx : evL l x = some (.int k m)) (hy : evL l y = some (.int k n)) : Cm P N CH l ⟨dd, .binOp .mul t x y t', ty, pos, aft, g⟩ (.int k (k.wrap (m * n))) := fun a w ha _ => by
  simp [execOp, ha.ev hx, ha.ev hy, eqGuard, binOp, Op.intArith]

theorem wrap64_id {z : Int} (h : -9223372036854775808 ≤ z ∧ z ≤ 9223372036854775807) : IntKind.i64.wrap z = z := IntWalk.i64_in z (by omega)

theorem Cm.add64 (hx : evL l x = some (.int .i64 m)) (hy : evL l y = some (.int .i64 n)) (hb : -9223372036854775808 ≤ m + n ∧ m + n ≤ 9223372036854775807) :
    Cm P N CH l ⟨dd, .binOp .add t x y t', ty, pos, aft, g⟩ (.int .i64 (m + n)) := by
  have := @Cm.addW P N l ty pos aft CH x y t t' g dd .i64 m n hx hy; rwa [wrap64_id hb] at this
theorem Cm.sub64 (hx : evL l x = some (.int .i64 m)) (hy : evL l y = some (.int .i64 n)) (hb : -9223372036854775808 ≤ m - n ∧ m - n ≤ 9223372036854775807) :
    Cm P N CH l ⟨dd, .binOp .sub t x y t', ty, pos, aft, g⟩ (.int .i64 (m - n)) := by
  have := @Cm.subW P N l ty pos aft CH x y t t' g dd .i64 m n hx hy; rwa [wrap64_id hb] at this
theorem Cm.mul64 (hx : evL l x = some (.int .i64 m)) (hy : evL l y = some (.int .i64 n)) (hb : -9223372036854775808 ≤ m * n ∧ m * n ≤ 9223372036854775807) :
    Cm P N CH l ⟨dd, .binOp .mul t x y t', ty, pos, aft, g⟩ (.int .i64 (m * n)) := by
  have := @Cm.mulW P N l ty pos aft CH x y t t' g dd .i64 m n hx hy; rwa [wrap64_id hb] at this

theorem Cm.quoW (hx : evL l x = some (.int k m)) (hy : evL l y = some (.int k n)) (hn : n ≠ 0) : Cm P N CH l ⟨dd, .binOp .quo t x y t', ty, pos, aft, g⟩ (.int k (k.wrap (m.tdiv n))) := fun a w ha _ => by
  simp [execOp, ha.ev hx, ha.ev hy, eqGuard, binOp, Op.intDiv, hn]
theorem Cm.quo64 (hx : evL l x = some (.int .i64 m)) (hy : evL l y = some (.int .i64 n)) (hm : 0 ≤ m ∧ m ≤ 9223372036854775807) (hn : 1 ≤ n) : Cm P N CH l ⟨dd, .binOp .quo t x y t', ty, pos, aft, g⟩ (.int .i64 (m / n)) := by
  have := @Cm.quoW P N l ty pos aft CH x y t t' g dd .i64 m n hx hy (by omega)
  rw [Int.tdiv_eq_ediv_of_nonneg hm.1, wrap64_id ⟨by have := Int.ediv_nonneg hm.1 (show 0 ≤ n by omega); omega, Int.le_trans (Int.ediv_le_self n hm.1) hm.2⟩] at this
  exact this
theorem Cm.remW (hx : evL l x = some (.int k m)) (hy : evL l y = some (.int k n)) (hn : n ≠ 0) : Cm P N CH l ⟨dd, .binOp .rem t x y t', ty, pos, aft, g⟩ (.int k (m.tmod n)) := fun a w ha _ => by
  simp [execOp, ha.ev hx, ha.ev hy, eqGuard, binOp, Op.intDiv, hn]
theorem Cm.rem64 (hx : evL l x = some (.int k m)) (hy : evL l y = some (.int k n)) (hm : 0 ≤ m) (hn : n ≠ 0) : Cm P N CH l ⟨dd, .binOp .rem t x y t', ty, pos, aft, g⟩ (.int k (m % n)) := by
  have := @Cm.remW P N l ty pos aft CH x y t t' g dd k m n hx hy hn
  rw [Int.tmod_eq_emod_of_nonneg hm] at this
  exact this

theorem Cm.lss (hx : evL l x = some (.int k m)) (hy : evL l y = some (.int k n)) : Cm P N CH l ⟨dd, .binOp .lss t x y t', ty, pos, aft, g⟩ (.bool (decide (m < n))) := fun a w ha _ => by
  simp [execOp, ha.ev hx, ha.ev hy, eqGuard, binOp, Op.intCmp]
theorem Cm.leq (hx : evL l x = some (.int k m)) (hy : evL l y = some (.int k n)) : Cm P N CH l ⟨dd, .binOp .leq t x y t', ty, pos, aft, g⟩ (.bool (decide (m ≤ n))) := fun a w ha _ => by
  simp [execOp, ha.ev hx, ha.ev hy, eqGuard, binOp, Op.intCmp]
theorem Cm.gtr (hx : evL l x = some (.int k m)) (hy : evL l y = some (.int k n)) : Cm P N CH l ⟨dd, .binOp .gtr t x y t', ty, pos, aft, g⟩ (.bool (decide (n < m))) := fun a w ha _ => by
  simp [execOp, ha.ev hx, ha.ev hy, eqGuard, binOp, Op.intCmp]
theorem Cm.geq (hx : evL l x = some (.int k m)) (hy : evL l y = some (.int k n)) : Cm P N CH l ⟨dd, .binOp .geq t x y t', ty, pos, aft, g⟩ (.bool (decide (n ≤ m))) := fun a w ha _ => by
  simp [execOp, ha.ev hx, ha.ev hy, eqGuard, binOp, Op.intCmp]
theorem Cm.eql (hx : evL l x = some (.int k m)) (hy : evL l y = some (.int k n)) : Cm P N CH l ⟨dd, .binOp .eql t x y t', ty, pos, aft, g⟩ (.bool (decide (m = n))) := fun a w ha _ => by
  simp [execOp, ha.ev hx, ha.ev hy, eqGuard, binOp, Op.intCmp]; rfl
theorem Cm.neq (hx : evL l x = some (.int k m)) (hy : evL l y = some (.int k n)) : Cm P N CH l ⟨dd, .binOp .neq t x y t', ty, pos, aft, g⟩ (.bool (decide (m ≠ n))) := fun a w ha _ => by
  simp [execOp, ha.ev hx, ha.ev hy, eqGuard, binOp, Op.intCmp]
  by_cases h : m = n <;> simp [h]

/-- A Bool that is known. -/
theorem Cm.yes {o : Oper} {p : Prop} [Decidable p] (h : Cm P N CH l o (.bool (decide p))) (hp : p) : Cm P N CH l o (.bool true) := by rwa [decide_eq_true hp] at h
theorem Cm.no {o : Oper} {p : Prop} [Decidable p] (h : Cm P N CH l o (.bool (decide p))) (hp : ¬ p) : Cm P N CH l o (.bool false) := by rwa [decide_eq_false hp] at h
theorem Cm.tell {o : Oper} {p : Prop} [Decidable p] (h : Cm P N CH l o (.bool (decide p))) {b : Bool} (hp : decide p = b) : Cm P N CH l o (.bool b) := by rwa [hp] at h
theorem Cm.ofEq {o : Oper} {u : Value} (h : Cm P N CH l o v) (e : v = u) : Cm P N CH l o u := e ▸ h

theorem Cm.not {b : Bool} (hx : evL l x = some (.bool b)) : Cm P N CH l ⟨dd, .unOp .not t x, ty, pos, aft, g⟩ (.bool (!b)) := fun a w ha _ => by
  simp [execOp, ha.ev hx, Op.unary]
theorem Cm.negW (hx : evL l x = some (.int k m)) : Cm P N CH l ⟨dd, .unOp .neg t x, ty, pos, aft, g⟩ (.int k (k.wrap (0 - m))) := fun a w ha _ => by
  simp [execOp, ha.ev hx, Op.unary, Op.intArith]
theorem Cm.neg64 (hx : evL l x = some (.int .i64 m)) (hb : -9223372036854775807 ≤ m ∧ m ≤ 9223372036854775807) : Cm P N CH l ⟨dd, .unOp .neg t x, ty, pos, aft, g⟩ (.int .i64 (-m)) := by
  have := @Cm.negW P N l ty pos aft CH x t g dd .i64 m hx
  rw [wrap64_id (by omega), Int.zero_sub] at this
  exact this

theorem Cm.convI (hs : (P.underlying t).isSome = true) (hd : P.underlying t' = some (.int k')) (hx : evL l x = some (.int k m)) : Cm P N CH l ⟨dd, .convert t t' x, ty, pos, aft, g⟩ (.int k' (k'.wrap m)) := fun a w ha _ => by
  obtain ⟨u, hu⟩ := Option.isSome_iff_exists.1 hs
  simp only [execOp, ha.ev hx, convert, Sem.run_bind, run_underlying hu, run_underlying hd, Result.andThen_ok]
  cases u <;> simp [Conv.intToInt]
theorem Cm.convI_in (hs : (P.underlying t).isSome = true) (hd : P.underlying t' = some (.int k')) (hx : evL l x = some (.int k m)) (hw : k'.wrap m = n) : Cm P N CH l ⟨dd, .convert t t' x, ty, pos, aft, g⟩ (.int k' n) := by
  have := @Cm.convI P N l ty pos aft CH x t t' g dd k k' m hs hd hx; rwa [hw] at this

theorem Cm.extract {vs : List Value} {i : Nat} (hx : evL l x = some (.tuple vs.toArray)) (hi : vs[i]? = some v) : Cm P N CH l ⟨dd, .extract x i, ty, pos, aft, g⟩ v := fun a w ha _ => by
  simp [execOp, ha.ev hx, Instr.extract, hi]
theorem Cm.nilCheck {ad : Addr} (hx : evL l x = some (.pointer (some ad))) : Cm P N CH l ⟨dd, .nilCheck x, ty, pos, aft, g⟩ (.pointer (some ad)) := fun a w ha _ => by
  simp [execOp, ha.ev hx]

/-- facts on a type -/
structure SliceT (P : Program) (t e : TypeId) (size bytes : Nat) : Prop where
  und : P.underlying t = some (.slice e)
  inf : (P.info? e).map (fun i => (i.zero.map (·.cells.size), i.size, i.bytes)) = some (some size, size, bytes)

theorem SliceT.parts {e : TypeId} {size bytes : Nat} (h : SliceT P t e size bytes) : ∃ i z, P.info? e = some i ∧ i.zero = some z ∧ z.cells.size = size ∧ i.size = size ∧ i.bytes = bytes := by
  obtain ⟨i, hi, h1⟩ := Option.map_eq_some_iff.1 h.inf
  simp only [Prod.mk.injEq] at h1
  obtain ⟨z, hz, h2⟩ := Option.map_eq_some_iff.1 h1.1
  exact ⟨i, z, hi, hz, h2, h1.2.1, h1.2.2⟩
theorem SliceT.size {e : TypeId} {size bytes : Nat} (h : SliceT P t e size bytes) (w : World) : (sizeOf e).run P w = .ok size w := by
  obtain ⟨i, z, hi, h1, hz, h2, h3⟩ := h.parts
  simp [sizeOf, typeInfo, hi, h2]

theorem Cm.len {e : TypeId} {size bytes : Nat} (ht : SliceT P t e size bytes) {ao : Option Addr} {c n : Nat} (hx : evL l x = some (.slice ao n c)) :
    Cm P N CH l ⟨dd, .call ⟨.builtin .len, #[x], #[t]⟩, ty, pos, aft, g⟩ (.int .i64 n) := fun a w ha _ => by
  simp [execOp, ha.ev hx, resolve, invoke, builtin, Builtin.len_, run_underlying ht.und, goInt]
theorem Cm.lenS (ht : P.underlying t = some .string) {s : ByteArray} (hx : evL l x = some (.string s)) :
    Cm P N CH l ⟨dd, .call ⟨.builtin .len, #[x], #[t]⟩, ty, pos, aft, g⟩ (.int .i64 s.size) := fun a w ha _ => by
  simp [execOp, ha.ev hx, resolve, invoke, builtin, Builtin.len_, run_underlying ht, goInt]
theorem Cm.min2 {ts : Array TypeId} (hx : evL l x = some (.int k m)) (hy : evL l y = some (.int k n)) :
    Cm P N CH l ⟨dd, .call ⟨.builtin .min, #[x, y], ts⟩, ty, pos, aft, g⟩ (.int k (if n < m then n else m)) := fun a w ha _ => by
  simp [execOp, ha.ev hx, ha.ev hy, resolve, invoke, builtin, Builtin.min_, Builtin.min2]
theorem Cm.max2 {ts : Array TypeId} (hx : evL l x = some (.int k m)) (hy : evL l y = some (.int k n)) :
    Cm P N CH l ⟨dd, .call ⟨.builtin .max, #[x, y], ts⟩, ty, pos, aft, g⟩ (.int k (if m < n then n else m)) := fun a w ha _ => by
  simp [execOp, ha.ev hx, ha.ev hy, resolve, invoke, builtin, Builtin.max_, Builtin.max2]

/-- the place of an element -/
def adr (ao : Option Addr) (i : Nat) : Addr := (ao.getD ⟨0, 0, none⟩).add i

theorem Cm.indexAddr {e : TypeId} {size bytes : Nat} (ht : SliceT P t e size bytes) {ao : Option Addr} {c len : Nat} (hx : evL l x = some (.slice ao len c)) (hy : evL l y = some (.int k n))
    (hao : len ≠ 0 → ao ≠ none) (hn : 0 ≤ n ∧ n < len) :
    Cm P N CH l ⟨dd, .indexAddr t x y, ty, pos, aft, g⟩ (.pointer (some (adr ao (n.toNat * size)))) := fun a w ha _ => by
  have : ao ≠ none := hao (by omega)
  cases ao with
  | none => exact absurd rfl this
  | some ad => simp [execOp, ha.ev hx, ha.ev hy, Instr.indexAt, asIntOf, run_underlying ht.und, ht.size w, hn, adr]

theorem Cm.indexAddr1 {e : TypeId} {bytes : Nat} (ht : SliceT P t e 1 bytes) {ao : Option Addr} {c len : Nat} (hx : evL l x = some (.slice ao len c)) (hy : evL l y = some (.int k n))
    (hao : len ≠ 0 → ao ≠ none) (hn : 0 ≤ n ∧ n < len) :
    Cm P N CH l ⟨dd, .indexAddr t x y, ty, pos, aft, g⟩ (.pointer (some (adr ao n.toNat))) := by
  have := @Cm.indexAddr P N l ty pos aft CH x y t g dd k n e 1 bytes ht ao c len hx hy hao hn
  rwa [Nat.mul_one] at this
end
end
end Go.Proofs.Ytpnfjfbfgaiolaa
