/- Operations that read or write memory, calls, appends, in the calculus. No condition. -/
import Derived.Test.YtpnfjfbfgaiolaaMem
import Derived.Laws.BytesArg
namespace Go.Proofs.Ytpnfjfbfgaiolaa
open Go Go.RowKit

/-- a string, by its bytes -/
def bs (xs : List UInt8) : ByteArray := ⟨xs.toArray⟩
theorem bs_toList (xs : List UInt8) : (bs xs).toList = xs := by rw [ByteArray.toList_eq]; simp [bs]
theorem bs_inj {a b : List UInt8} (h : bs a = bs b) : a = b := by rw [← bs_toList a, h, bs_toList]
theorem bs_size (xs : List UInt8) : (bs xs).size = xs.length := by simp [bs, ByteArray.size]

/-- an ending with a value -/
def Ret (R : Value → World → Prop) (e : Ending) (w : World) : Prop := ∃ v, e = .returned v ∧ R v w

def evLs (l : SF) : List Operand → Option (List Value)
  | [] => some []
  | x :: r => match evL l x, evLs l r with
    | some v, some vs => some (v :: vs)
    | _, _ => none

theorem HasL.evs {N : Nt} {l : SF} {a : Act} (h : HasL N l a) : ∀ {xs : List Operand} {vs : List Value}, evLs l xs = some vs → xs.map a.eval = vs
  | [], vs, e => by simp [evLs] at e; simp [e]
  | x :: r, vs, e => by
    unfold evLs at e
    split at e
    · rename_i v us h1 h2
      cases e
      simp [h.ev h1, h.evs h2]
    · cases e

/-- a type whose variables are one cell -/
def scaB (P : Program) (t : TypeId) : Bool :=
  (match P.underlying t with | some (.struct _) | some (.array _ _) | none => false | _ => true) && ((P.info? t).map (·.size) == some 1)
theorem sca_agg {P : Program} {t : TypeId} (h : scaB P t = true) (w : World) : (isAgg t).run P w = .ok false w := by
  simp only [scaB, Bool.and_eq_true] at h
  unfold isAgg
  cases hu : P.underlying t with
  | none => simp [hu] at h
  | some d => rw [Sem.run_bind, run_underlying hu w]; cases d <;> simp_all
theorem sca_size {P : Program} {t : TypeId} (h : scaB P t = true) (w : World) : (sizeOf t).run P w = .ok 1 w := by
  simp only [scaB, Bool.and_eq_true, beq_iff_eq] at h
  obtain ⟨i, hi, h1⟩ := Option.map_eq_some_iff.1 h.2
  simp [sizeOf, typeInfo, hi, h1]

/-- a fields place -/
def fldB (P : Program) (s f off : Nat) : Bool :=
  match P.underlying s with
  | some (.struct fs) => match fs[f]? with
    | some fd => fd.offset == off && (match (P.info? fd.type).map (·.size) with | some n => n != 0 | none => false)
    | none => false
  | _ => false

def fnB (P : Program) (f : FuncId) : Bool :=
  match P.funcs[f]? with
  | some fn => !(fn.name == "runtime.NumGoroutine") && fn.body.isSome
  | none => false
theorem run_callFunc_fnB {P : Program} {f : FuncId} (h : fnB P f = true) (args : Array Value) (w : World) : (callFunc f args).run P w = .ok (.enter f args) w := by
  unfold fnB at h
  split at h
  · rename_i fn hf
    simp only [Bool.and_eq_true, Bool.not_eq_true'] at h
    have hb : fn.body.isNone = false := by cases hb : fn.body <;> simp_all
    unfold callFunc
    rw [Sem.run_bind, run_program, Result.andThen_ok, hf]
    simp only [h.1, hb]
    rfl
  · cases h

section
variable {P : Program} {N : Nt} {Q : Exit → Act → World → Prop} {l : SF} {w : World} {ops : Array Oper} {rest : List Oper}
variable {op : Op} {ty : TypeId} {pos : String} {aft : Array Edge} {d : Nat} {v : Value} {CH : Array Obj → Prop}
variable {x y : Operand} {t t' : TypeId} {g : Option (Nat × Bool)} {dd : Option Nat}

theorem Sl.eff {w' : World} (hr : ∀ a, HasL N l a → (execOp a.eval ⟨some d, op, ty, pos, aft, none⟩).run P w = .ok (.value v) w') (hd : Nat.blt d N.n = true) (h : Sl P N ops Q rest ((d, v) :: l) w') :
    Sl P N ops Q (⟨some d, op, ty, pos, aft, none⟩ :: rest) l w := fun a ha => by
  unfold wpList
  rw [if_pos (by simp [Region.wanted])]
  refine .inl ?_
  unfold Oper.wp
  rw [hr a ha]
  exact h _ (ha.put hd v)
theorem Sl.effSkip {w' : World} (hr : ∀ a, HasL N l a → (execOp a.eval ⟨none, op, ty, pos, aft, none⟩).run P w = .ok .skip w') (h : Sl P N ops Q rest l w') :
    Sl P N ops Q (⟨none, op, ty, pos, aft, none⟩ :: rest) l w := fun a ha => by
  unfold wpList
  rw [if_pos (by simp [Region.wanted])]
  refine .inl ?_
  unfold Oper.wp
  rw [hr a ha]
  exact h _ ha

/-! calls -/
theorem run_call {f : FuncId} {xs : List Operand} {vs : List Value} {ts : Array TypeId} {a : Act} (hf : fnB P f = true) (ha : HasL N l a) (hx : evLs l xs = some vs) :
    (execOp a.eval ⟨dd, .call ⟨.value (.func f), xs.toArray, ts⟩, ty, pos, aft, g⟩).run P w = .ok (.enter f vs.toArray) w := by
  simp [execOp, resolve, Act.eval, Deferred.ofValue, invoke, run_callFunc_fnB hf]
  rw [← ha.evs hx]

theorem Sl.call {f : FuncId} {xs : List Operand} {vs : List Value} {ts : Array TypeId} (hf : fnB P f = true) (hx : evLs l xs = some vs) {R : Value → World → Prop} (hc : Calls P f vs.toArray w (Ret R)) (hd : Nat.blt d N.n = true)
    (h : ∀ v w', R v w' → Sl P N ops Q rest ((d, v) :: l) w') :
    Sl P N ops Q (⟨some d, .call ⟨.value (.func f), xs.toArray, ts⟩, ty, pos, aft, none⟩ :: rest) l w := fun a ha => by
  unfold wpList
  rw [if_pos (by simp [Region.wanted])]
  refine .inl ?_
  unfold Oper.wp
  rw [run_call hf ha hx]
  refine hc.mono ?_
  rintro e w' ⟨v, rfl, hR⟩
  exact h v w' hR _ (ha.put hd v)
theorem Sl.callWant {f : FuncId} {xs : List Operand} {vs : List Value} {ts : Array TypeId} {j s : Nat} {b : Bool} (hj : (ops[j]?).bind (·.dst) = some s) (hs : lk l s = some (.bool b)) (hf : fnB P f = true) (hx : evLs l xs = some vs) {R : Value → World → Prop} (hc : Calls P f vs.toArray w (Ret R)) (hd : Nat.blt d N.n = true)
    (h : ∀ v w', R v w' → Sl P N ops Q rest ((d, v) :: l) w') :
    Sl P N ops Q (⟨some d, .call ⟨.value (.func f), xs.toArray, ts⟩, ty, pos, aft, some (j, b)⟩ :: rest) l w := fun a ha => by
  unfold wpList
  rw [if_pos (by simp [Region.wanted, yielded_of ha hj hs])]
  refine .inl ?_
  unfold Oper.wp
  rw [run_call hf ha hx]
  refine hc.mono ?_
  rintro e w' ⟨v, rfl, hR⟩
  exact h v w' hR _ (ha.put hd v)
theorem Sl.callN {f : FuncId} {xs : List Operand} {vs : List Value} {ts : Array TypeId} (hf : fnB P f = true) (hx : evLs l xs = some vs) {R : Value → World → Prop} (hc : Calls P f vs.toArray w (Ret R))
    (h : ∀ v w', R v w' → Sl P N ops Q rest l w') :
    Sl P N ops Q (⟨none, .call ⟨.value (.func f), xs.toArray, ts⟩, ty, pos, aft, none⟩ :: rest) l w := fun a ha => by
  unfold wpList
  rw [if_pos (by simp [Region.wanted])]
  refine .inl ?_
  unfold Oper.wp
  rw [run_call hf ha hx]
  refine hc.mono ?_
  rintro e w' ⟨v, rfl, hR⟩
  exact h v w' hR _ ha

/-! reads -/
theorem Cm.load {ad : Addr} (ht : scaB P t = true) (hx : evL l x = some (.pointer (some ad))) (hc : ∀ H, CH H → cellH H ad = some v) : Cm P N CH l ⟨dd, .load t x, ty, pos, aft, g⟩ v := fun a w ha hw => by
  have := hc _ hw
  simp [execOp, ha.ev hx, Instr.loadAt, Instr.sureAddr, loadVar, sca_agg ht, cell?_eq, this]
theorem Cm.ld {H : Array Obj} {ad : Addr} (ht : scaB P t = true) (hx : evL l x = some (.pointer (some ad))) (hc : cellH H ad = some v) : Cm P N (· = H) l ⟨dd, .load t x, ty, pos, aft, g⟩ v :=
  Cm.load ht hx (fun _ e => by rw [e]; exact hc)
theorem Cm.field {ad : Addr} {s f off : Nat} (hs : fldB P s f off = true) (hx : evL l x = some (.pointer (some ad))) : Cm P N CH l ⟨dd, .fieldAddr s x f, ty, pos, aft, g⟩ (.pointer (some (ad.add off))) := fun a w ha _ => by
  unfold fldB at hs
  split at hs
  · rename_i fs hu
    split at hs
    · rename_i fd hf
      simp only [Bool.and_eq_true, beq_iff_eq] at hs
      obtain ⟨h1, h2⟩ := hs
      split at h2
      · rename_i n hn
        obtain ⟨i, hi, h3⟩ := Option.map_eq_some_iff.1 hn
        have h4 : i.size ≠ 0 := by rw [h3]; simpa using h2
        simp [execOp, ha.ev hx, Instr.fieldAt, run_underlying hu, hf, Instr.sureAddr, fieldPlace, sizeOf, typeInfo, hi, h4, h1]
      · cases h2
    · cases hs
  · cases hs

theorem run_sliceBound_ok (k : IntKind) {i : Int} {y : Nat} {code : BoundsCode} (w : World) (h : 0 ≤ i ∧ i ≤ y) : (Instr.sliceBound (.int k i) y code).run P w = .ok i.toNat w := by
  simp [Instr.sliceBound, asIntOf, h]

/-- x[l:] -/
theorem Cm.sliceL {e : TypeId} {size bytes : Nat} (ht : SliceT P t e size bytes) {ao : Option Addr} {len cap : Nat} {kl : IntKind} {n : Int} {lo : Operand} (hx : evL l x = some (.slice ao len cap)) (hl : evL l lo = some (.int kl n))
    (hn : 0 ≤ n ∧ n ≤ len) : Cm P N CH l ⟨dd, .slice t x (some lo) none none, ty, pos, aft, g⟩ (.slice (cutAo ao cap n.toNat size) (len - n.toNat) (cap - n.toNat)) := fun a w ha _ => by
  simp [execOp, ha.ev hx, ha.ev hl, Instr.sliceAt, Instr.slice, run_underlying ht.und, Instr.sliceBounds, run_sliceBound_ok _ _ hn, ht.size, cutAo]
/-- x[:h] -/
theorem Cm.sliceH {e : TypeId} {size bytes : Nat} (ht : SliceT P t e size bytes) {ao : Option Addr} {len cap : Nat} {kh : IntKind} {n : Int} {hi : Operand} (hx : evL l x = some (.slice ao len cap)) (hh : evL l hi = some (.int kh n))
    (hn : 0 ≤ n ∧ n ≤ cap) : Cm P N CH l ⟨dd, .slice t x none (some hi) none, ty, pos, aft, g⟩ (.slice (cutAo ao cap 0 size) n.toNat cap) := fun a w ha _ => by
  simp [execOp, ha.ev hx, ha.ev hh, Instr.sliceAt, Instr.slice, run_underlying ht.und, Instr.sliceBounds, run_sliceBound_ok _ _ hn, ht.size, cutAo]
/-- x[l:h] -/
theorem Cm.sliceLH {e : TypeId} {size bytes : Nat} (ht : SliceT P t e size bytes) {ao : Option Addr} {len cap : Nat} {kl kh : IntKind} {m n : Int} {lo hi : Operand} (hx : evL l x = some (.slice ao len cap)) (hl : evL l lo = some (.int kl m)) (hh : evL l hi = some (.int kh n))
    (hm : 0 ≤ m ∧ m ≤ n) (hn : n ≤ cap) : Cm P N CH l ⟨dd, .slice t x (some lo) (some hi) none, ty, pos, aft, g⟩ (.slice (cutAo ao cap m.toNat size) (n.toNat - m.toNat) (cap - m.toNat)) := fun a w ha _ => by
  have h1 : 0 ≤ n ∧ n ≤ (cap : Int) := ⟨by omega, hn⟩
  have h2 : 0 ≤ m ∧ m ≤ (n.toNat : Int) := ⟨hm.1, by omega⟩
  simp only [execOp, ha.ev hx, ha.ev hl, ha.ev hh, Instr.sliceAt, Instr.slice, run_underlying ht.und, Instr.sliceBounds, Option.map_some, Option.map_none, Sem.run_bind, Result.andThen_ok, Sem.run_pure,
    run_sliceBound_ok _ _ h1, run_sliceBound_ok _ _ h2, ht.size, cutAo]
/-- x[l:h:m] -/
theorem Cm.sliceLHM {e : TypeId} {size bytes : Nat} (ht : SliceT P t e size bytes) {ao : Option Addr} {len cap : Nat} {kl kh km : IntKind} {m n q : Int} {lo hi mx : Operand} (hx : evL l x = some (.slice ao len cap)) (hl : evL l lo = some (.int kl m)) (hh : evL l hi = some (.int kh n)) (hq : evL l mx = some (.int km q))
    (hm : 0 ≤ m ∧ m ≤ n) (hn : n ≤ q) (hqc : q ≤ cap) : Cm P N CH l ⟨dd, .slice t x (some lo) (some hi) (some mx), ty, pos, aft, g⟩ (.slice (cutAo ao q.toNat m.toNat size) (n.toNat - m.toNat) (q.toNat - m.toNat)) := fun a w ha _ => by
  have h0 : 0 ≤ q ∧ q ≤ (cap : Int) := ⟨by omega, hqc⟩
  have h1 : 0 ≤ n ∧ n ≤ (q.toNat : Int) := ⟨by omega, by omega⟩
  have h2 : 0 ≤ m ∧ m ≤ (n.toNat : Int) := ⟨hm.1, by omega⟩
  simp only [execOp, ha.ev hx, ha.ev hl, ha.ev hh, ha.ev hq, Instr.sliceAt, Instr.slice, run_underlying ht.und, Instr.sliceBounds, Option.map_some, Sem.run_bind, Result.andThen_ok, Sem.run_pure,
    run_sliceBound_ok _ _ h0, run_sliceBound_ok _ _ h1, run_sliceBound_ok _ _ h2, ht.size, cutAo]

/-- string(b) -/
theorem Cm.str {e : TypeId} {size bytes : Nat} (ht : SliceT P t e size bytes) (he : P.underlying e = some (.int .u8)) (hd : P.underlying t' = some .string) {ao : Option Addr} {cap : Nat} {xs : List UInt8} (hx : evL l x = some (.slice ao xs.length cap)) (hv : ∀ H, CH H → Vw b8 H ao cap xs) :
    Cm P N CH l ⟨dd, .convert t t' x, ty, pos, aft, g⟩ (.string (bs xs)) := fun a w ha hw => by
  have hv := hv _ hw
  simp only [execOp, ha.ev hx, Sem.run_bind]
  cases hao : ao with
  | none =>
    have hn : xs = [] := by
      rcases Nat.eq_zero_or_pos xs.length with h0 | h0
      · exact List.eq_nil_of_length_eq_zero h0
      · exact absurd hao (hv.non (by omega))
    subst hn
    rw [run_convert_bytes_nil w t e ht.und he _ _ t' hd]
    rfl
  | some b =>
    have hl : (loadCells b xs.length).run P w = .ok ((xs.map fun u => ((u.toNat : Int))).map (Value.int .u8)).toArray w := by
      have := run_loadCells_list (P := P) w b (xs.map b8) (fun j u hj => by
        rw [List.getElem?_map] at hj
        obtain ⟨q, hq, rfl⟩ := Option.map_eq_some_iff.1 hj
        have := hv.get j q hq
        rw [hao] at this
        exact this)
      rw [List.length_map] at this
      rw [this, List.map_map]; rfl
    rw [run_convert_bytes_string w t t' e _ xs.length cap ht.und he hd, run_bytesToString w b xs.length cap _ hl, foldl_push_bytes]
    simp [bs, ByteArray.empty, ByteArray.emptyWithCapacity, Function.comp_def]
    rfl
theorem Cm.strIn {H : Array Obj} {e : TypeId} {size bytes : Nat} (ht : SliceT P t e size bytes) (he : P.underlying e = some (.int .u8)) (hd : P.underlying t' = some .string) {ao : Option Addr} {cap : Nat} {xs : List UInt8} (hx : evL l x = some (.slice ao xs.length cap)) (hv : Vw b8 H ao cap xs) :
    Cm P N (· = H) l ⟨dd, .convert t t' x, ty, pos, aft, g⟩ (.string (bs xs)) := Cm.str ht he hd hx (fun _ e => by rw [e]; exact hv)

theorem Cm.eqlS {a b : ByteArray} (hx : evL l x = some (.string a)) (hy : evL l y = some (.string b)) : Cm P N CH l ⟨dd, .binOp .eql t x y t', ty, pos, aft, g⟩ (.bool (decide (a.toList = b.toList))) := fun c w ha _ => by
  simp [execOp, ha.ev hx, ha.ev hy, eqGuard, binOp, Op.stringOp]
  by_cases h : a.toList = b.toList <;> simp [h]
theorem Cm.neqS {a b : ByteArray} (hx : evL l x = some (.string a)) (hy : evL l y = some (.string b)) : Cm P N CH l ⟨dd, .binOp .neq t x y t', ty, pos, aft, g⟩ (.bool (decide (a.toList ≠ b.toList))) := fun c w ha _ => by
  simp [execOp, ha.ev hx, ha.ev hy, eqGuard, binOp, Op.stringOp]
  by_cases h : a.toList = b.toList <;> simp [h]
theorem Cm.eqlBs {a b : List UInt8} (hx : evL l x = some (.string (bs a))) (hy : evL l y = some (.string (bs b))) : Cm P N CH l ⟨dd, .binOp .eql t x y t', ty, pos, aft, g⟩ (.bool (decide (a = b))) := by
  have := @Cm.eqlS P N l ty pos aft CH x y t t' g dd (bs a) (bs b) hx hy; simpa only [bs_toList] using this
theorem Cm.neqBs {a b : List UInt8} (hx : evL l x = some (.string (bs a))) (hy : evL l y = some (.string (bs b))) : Cm P N CH l ⟨dd, .binOp .neq t x y t', ty, pos, aft, g⟩ (.bool (decide (a ≠ b))) := by
  have := @Cm.neqS P N l ty pos aft CH x y t t' g dd (bs a) (bs b) hx hy; simpa only [bs_toList] using this

/-- a pointer against nil -/
def ptrB (P : Program) (t : TypeId) : Bool := match P.underlying t with | some (.pointer _) => true | _ => false
theorem ptr_und {P : Program} {t : TypeId} (h : ptrB P t = true) : P.underlying t = some (.pointer (P.pointee t)) := by
  unfold ptrB at h
  split at h
  · rename_i e hu; simp [Program.pointee, hu]
  · cases h
theorem Cm.eqlPtrNil {p : Option Addr} (ht : ptrB P t = true) (hx : evL l x = some (.pointer p)) (hy : evL l y = some (.pointer none)) : Cm P N CH l ⟨dd, .binOp .eql t x y t', ty, pos, aft, g⟩ (.bool p.isNone) := fun c w ha _ => by
  have := run_eql_pointer_nil (P := P) w t p (ptr_und ht)
  simp only [execOp, ha.ev hx, ha.ev hy]
  cases p <;> simp [eqGuard, this]
theorem Cm.neqPtrNil {p : Option Addr} (ht : ptrB P t = true) (hx : evL l x = some (.pointer p)) (hy : evL l y = some (.pointer none)) : Cm P N CH l ⟨dd, .binOp .neq t x y t', ty, pos, aft, g⟩ (.bool (!p.isNone)) := fun c w ha _ => by
  have := run_neq_pointer_nil (P := P) w t p (ptr_und ht)
  simp only [execOp, ha.ev hx, ha.ev hy]
  cases p <;> simp [eqGuard, this]

/-! new memory, stores -/
theorem Sl.append {α : Type} {enc : α → Value} (henc : ∀ x, (enc x).oneCell' = true) {e : TypeId} {bytes : Nat} (ht : SliceT P t e 1 bytes)
    {ao bo : Option Addr} {cap bcap : Nat} {xs ys : List α} (hx : evL l x = some (.slice ao xs.length cap)) (hy : evL l y = some (.slice bo ys.length bcap))
    (ho : Own enc e w.heap ao cap xs) (hv : Vw enc w.heap bo bcap ys)
    (hb : (xs.length + ys.length) * bytes ≤ 140737488355328) (hm : xs.length + ys.length ≤ maxLen) (hd : Nat.blt d N.n = true)
    (h : ∀ ao' cap' w', Own enc e w'.heap ao' cap' (xs ++ ys) → Foot (blk ao) w w' → (∀ a, ao' = some a → ao = some a ∨ w.heap.size ≤ a.block) → (ao' = none → ao = none ∧ ys = []) →
      Sl P N ops Q rest ((d, .slice ao' (xs ++ ys).length cap') :: l) w') :
    Sl P N ops Q (⟨some d, .call ⟨.builtin .append, #[x, y], #[t, t]⟩, ty, pos, aft, none⟩ :: rest) l w := by
  obtain ⟨ao', cap', w', hr, h1, h2, h3, h4⟩ := run_append_own1 henc (ty := ty) ht ho hv hb hm
  refine Sl.eff (w' := w') (v := .slice ao' (xs ++ ys).length cap') (fun a ha => ?_) hd (h ao' cap' w' h1 h2 h3 h4)
  simp [execOp, ha.ev hx, ha.ev hy, resolve, invoke, builtin, hr]

theorem Sl.box {T : TypeId} (hx : evL l x = some v) (hd : Nat.blt d N.n = true)
    (h : ∀ w', w'.heap[w.heap.size]? = some (.cells v.cells T (0, 0)) → w'.heap.size = w.heap.size + 1 → Foot nob w w' → Sl P N ops Q rest ((d, .pointer (some ⟨w.heap.size, 0, none⟩)) :: l) w') :
    Sl P N ops Q (⟨some d, .box T x, ty, pos, aft, none⟩ :: rest) l w := by
  refine Sl.eff (w' := w.alloc (.cells v.cells T)) (fun a ha => ?_) hd (h _ (heap_alloc_new w _) (by simp) (Foot.alloc _ _ _))
  simp [execOp, ha.ev hx, Instr.box, newVar, newRow]

theorem Sl.allocZ {T : TypeId} {z : Value} {size bytes : Nat} (hT : (P.info? T).map (fun i => (i.zero, i.size, i.bytes)) = some (some z, size, bytes)) (hd : Nat.blt d N.n = true)
    (h : ∀ w', w'.heap[w.heap.size]? = some (.cells z.cells T (0, 0)) → w'.heap.size = w.heap.size + 1 → Foot nob w w' → Sl P N ops Q rest ((d, .pointer (some ⟨w.heap.size, 0, none⟩)) :: l) w') :
    Sl P N ops Q (⟨some d, .alloc T, ty, pos, aft, none⟩ :: rest) l w := by
  obtain ⟨i, hi, h1, h2, h3⟩ := info_parts hT
  refine Sl.eff (w' := w.alloc (.cells z.cells T)) (fun a ha => ?_) hd (h _ (heap_alloc_new w _) (by simp) (Foot.alloc _ _ _))
  simp [execOp, Instr.alloc, zeroValue, typeInfo, hi, h1, newVar, newRow]

theorem own_new {α : Type} {enc : α → Value} {e : TypeId} {H : Array Obj} {g : Nat} {xs : List α} (hg : H[g]? = some (.cells (xs.map enc).toArray e (0, 0))) (hm : xs.length ≤ maxLen) : Own enc e H (some ⟨g, 0, none⟩) xs.length xs :=
  .inr ⟨g, _, rfl, hg, Nat.le_refl _, hm, by simp, by simp; exact List.take_of_length_le (by simp)⟩

theorem range_set0 {f : Nat → Value} : (Array.range 0).map f = #[] := by apply Array.ext'; simp
theorem range_set1 {f : Nat → Value} {u : Value} : ((Array.range 1).map f).setIfInBounds 0 u = #[u] := by apply Array.ext'; simp [List.range_succ]
theorem range_set2 {f : Nat → Value} {u u' : Value} : (((Array.range 2).map f).setIfInBounds 0 u).setIfInBounds 1 u' = #[u, u'] := by apply Array.ext'; simp [List.range_succ]

theorem Sl.lit0 {α : Type} (enc : α → Value) {e : TypeId} {bytes : Nat} (ht : SliceT P t e 1 bytes) (hd : Nat.blt d N.n = true)
    (h : ∀ w', Own enc e w'.heap (some ⟨w.heap.size, 0, none⟩) 0 ([] : List α) → w'.heap.size = w.heap.size + 1 → Foot nob w w' → Sl P N ops Q rest ((d, .slice (some ⟨w.heap.size, 0, none⟩) 0 0) :: l) w') :
    Sl P N ops Q (⟨some d, .buildSlice t 0 #[], ty, pos, aft, none⟩ :: rest) l w := by
  refine Sl.eff (w' := w.alloc (.cells #[] e)) (fun a ha => ?_) hd (h _ (own_new (xs := []) (heap_alloc_new w _) (Nat.zero_le _)) (by simp) (Foot.alloc _ _ _))
  simp [execOp, Instr.buildSlice, run_underlying ht.und, ht.size, Instr.fill, newRow]
  rw [range_set0]
theorem Sl.lit1 {α : Type} {enc : α → Value} {e : TypeId} {bytes : Nat} (ht : SliceT P t e 1 bytes) {u : α} (hu : (enc u).oneCell' = true) (hx : evL l x = some (enc u)) (hd : Nat.blt d N.n = true)
    (h : ∀ w', Own enc e w'.heap (some ⟨w.heap.size, 0, none⟩) 1 [u] → w'.heap.size = w.heap.size + 1 → Foot nob w w' → Sl P N ops Q rest ((d, .slice (some ⟨w.heap.size, 0, none⟩) 1 1) :: l) w') :
    Sl P N ops Q (⟨some d, .buildSlice t 1 #[(0, x)], ty, pos, aft, none⟩ :: rest) l w := by
  obtain ⟨i, z, hi, h1, hz, h2, h3⟩ := ht.parts
  have hc : (enc u).cells = #[enc u] := by cases he : enc u <;> simp_all [Value.cells, Value.oneCell']
  refine Sl.eff (w' := w.alloc (.cells #[enc u] e)) (fun a ha => ?_) hd (h _ (own_new (xs := [u]) (heap_alloc_new w _) (by simp [maxLen])) (by simp) (Foot.alloc _ _ _))
  simp [execOp, Instr.buildSlice, run_underlying ht.und, ht.size, zeroValue, typeInfo, hi, h1, Instr.fill, ha.ev hx, hc, newRow]
  rw [range_set1]
theorem Sl.lit2 {α : Type} {enc : α → Value} {e : TypeId} {bytes : Nat} (ht : SliceT P t e 1 bytes) {u u' : α} (hu : ∀ x, (enc x).oneCell' = true) (hx : evL l x = some (enc u)) (hy : evL l y = some (enc u')) (hd : Nat.blt d N.n = true)
    (h : ∀ w', Own enc e w'.heap (some ⟨w.heap.size, 0, none⟩) 2 [u, u'] → w'.heap.size = w.heap.size + 1 → Foot nob w w' → Sl P N ops Q rest ((d, .slice (some ⟨w.heap.size, 0, none⟩) 2 2) :: l) w') :
    Sl P N ops Q (⟨some d, .buildSlice t 2 #[(0, x), (1, y)], ty, pos, aft, none⟩ :: rest) l w := by
  obtain ⟨i, z, hi, h1, hz, h2, h3⟩ := ht.parts
  have hc : ∀ u, (enc u).cells = #[enc u] := fun u => by have := hu u; cases he : enc u <;> simp_all [Value.cells, Value.oneCell']
  refine Sl.eff (w' := w.alloc (.cells #[enc u, enc u'] e)) (fun a ha => ?_) hd (h _ (own_new (xs := [u, u']) (heap_alloc_new w _) (by simp [maxLen])) (by simp) (Foot.alloc _ _ _))
  simp [execOp, Instr.buildSlice, run_underlying ht.und, ht.size, zeroValue, typeInfo, hi, h1, Instr.fill, ha.ev hx, ha.ev hy, hc, newRow]
  rw [range_set2]

/-- a store of one cell into a block that is known -/
theorem Sl.store {b o : Nat} {cur : List Value} {T : TypeId} (ht : scaB P t = true) (hx : evL l x = some (.pointer (some ⟨b, o, none⟩))) (hy : evL l y = some v) (h1 : v.oneCell' = true)
    (hg : w.heap[b]? = some (.cells cur.toArray T (0, 0))) (ho : Nat.blt o cur.length = true)
    (h : ∀ w', w'.heap[b]? = some (.cells (cur.set o v).toArray T (0, 0)) → w'.heap.size = w.heap.size → Foot (· = b) w w' → Sl P N ops Q rest l w') :
    Sl P N ops Q (⟨none, .store t x y, ty, pos, aft, none⟩ :: rest) l w := by
  have ho' : o < cur.length := by simpa [Nat.blt_eq] using ho
  have hb := (Array.getElem?_eq_some_iff.1 hg)
  have hc : v.cells = #[v] := by cases v <;> simp_all [Value.cells, Value.oneCell']
  have hcell : w.cell? ((⟨b, o, none⟩ : Addr).add 0) = some cur[o] := by simp [Addr.add, World.cell?, hg, ho']
  have hfro : w.frozen? ((⟨b, o, none⟩ : Addr).add 0) = false := by simp [Addr.add, World.frozen?, hg]
  refine Sl.effSkip (w' := w.setCell ⟨b, o, none⟩ v) (fun a ha => ?_) (h _ ?_ ?_ ?_)
  · simp [execOp, ha.ev hx, ha.ev hy, Instr.storeAt, Instr.sureAddr, storeVar, sca_size ht, hc, storeCells, run_store P w _ v _ h1, hcell, hfro]
    simp [Addr.add]
  · simp [World.setCell, Array.getElem?_modify, hg]
  · simp [World.setCell]
  · exact ⟨rfl, rfl, rfl, by simp [World.setCell], fun k hk hn => Below.heap_setCell _ _ _ _ hn⟩
end
end Go.Proofs.Ytpnfjfbfgaiolaa
