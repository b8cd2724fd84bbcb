/- More operations: struct literals, make, comparisons with nil, stores into rows. No condition. -/
import Derived.Test.YtpnfjfbfgaiolaaMix
namespace Go.Proofs.Ytpnfjfbfgaiolaa
open Go Go.RowKit

/-- the places of a structs fields -/
def places (P : Program) (t : TypeId) : Option (List (Nat × Nat)) :=
  match P.underlying t with
  | some (.struct fs) => fs.toList.mapM fun f => (P.info? f.type).map fun i => (f.offset, i.size)
  | _ => none

theorem run_mapM_places {P : Program} {w : World} : ∀ (fs : List Field) (pl : List (Nat × Nat)), (fs.mapM fun f => (P.info? f.type).map fun i => (f.offset, i.size)) = some pl →
    (fs.mapM fun (f : Field) => (do pure (f.offset, ← sizeOf f.type) : Sem (Nat × Nat))).run P w = .ok pl w
  | [], pl, h => by simp at h; subst h; simp
  | f :: r, pl, h => by
    simp only [List.mapM_cons, Option.bind_eq_bind, Option.bind_eq_some_iff, Option.map_eq_some_iff, Option.pure_def, Option.some.injEq] at h
    obtain ⟨p, ⟨i, hi, rfl⟩, ps, hps, rfl⟩ := h
    have ih := run_mapM_places (w := w) r ps hps
    simp [List.mapM_cons, sizeOf, typeInfo, hi]
    simp [sizeOf, typeInfo] at ih
    rw [ih]; rfl

def evPs (l : SF) : List (Nat × Operand) → Option (List (Nat × Value))
  | [] => some []
  | (i, x) :: r => match evL l x, evPs l r with
    | some v, some vs => some ((i, v) :: vs)
    | _, _ => none

theorem HasL.evPs {N : Nt} {l : SF} {a : Act} (h : HasL N l a) : ∀ {xs : List (Nat × Operand)} {vs : List (Nat × Value)}, Go.Proofs.Ytpnfjfbfgaiolaa.evPs l xs = some vs → xs.map (fun p => (p.1, a.eval p.2)) = vs
  | [], vs, e => by simp [Go.Proofs.Ytpnfjfbfgaiolaa.evPs] at e; simp [e]
  | (i, x) :: r, vs, e => by
    unfold Go.Proofs.Ytpnfjfbfgaiolaa.evPs at e
    split at e
    · rename_i v us h1 h2
      cases e
      simp [h.ev h1, h.evPs h2]
    · cases e

section
variable {P : Program} {N : Nt} {Q : Exit → Act → World → Prop} {l : SF} {w : World} {ops : Array Oper} {rest : List Oper}
variable {op : Op} {ty : TypeId} {pos : String} {aft : Array Edge} {d : Nat} {v : Value} {CH : Array Obj → Prop}
variable {x y : Operand} {t t' : TypeId} {g : Option (Nat × Bool)} {dd : Option Nat}

theorem Cm.build {parts : List (Nat × Operand)} {vs : List (Nat × Value)} {pl : List (Nat × Nat)} {zc cs : Array Value} (hp : places P t = some pl) (hz : (P.info? t).map (fun i => i.zero.map (·.cells)) = some (some zc))
    (hx : evPs l parts = some vs) (hf : Instr.fill (fun i => pl.toArray[i]?) zc vs = some cs) : Cm P N CH l ⟨dd, .build t parts.toArray, ty, pos, aft, g⟩ (.agg cs) := fun a w ha _ => by
  unfold places at hp
  split at hp
  · rename_i fs hu
    obtain ⟨i, hi, h1⟩ := Option.map_eq_some_iff.1 hz
    obtain ⟨z, hz', rfl⟩ := Option.map_eq_some_iff.1 h1
    have hm := run_mapM_places (P := P) (w := w) fs.toList pl hp
    have hm' : (fs.mapM fun (f : Field) => (do pure (f.offset, ← sizeOf f.type) : Sem (Nat × Nat))).run P w = .ok pl.toArray w := by
      rw [← Array.toArray_toList (xs := fs), List.mapM_toArray]
      simp only [Sem.run_map, hm, Result.andThen_ok]
    have hv := ha.evPs hx
    simp only [execOp, Instr.build, Sem.run_bind, zeroValue, typeInfo, run_program, Result.andThen_ok, hi, hz', run_underlying hu, Sem.run_pure, hm', List.map_toArray, hv]
    rw [hf]
    simp
  · cases hp

theorem Cm.eqlSlNil {e : TypeId} {size bytes : Nat} (ht : SliceT P t e size bytes) {ao : Option Addr} {n c : Nat} (hx : evL l x = some (.slice ao n c)) (hy : evL l y = some (.slice none 0 0)) : Cm P N CH l ⟨dd, .binOp .eql t x y t', ty, pos, aft, g⟩ (.bool ao.isNone) := fun b w ha _ => by
  simp only [execOp, ha.ev hx, ha.ev hy]
  have := Lib.run_eql_slice_nil w t e ao n c 0 0 ht.und
  cases ao <;> simp [eqGuard] at this ⊢ <;> simp [this]
theorem Cm.neqSlNil {e : TypeId} {size bytes : Nat} (ht : SliceT P t e size bytes) {ao : Option Addr} {n c : Nat} (hx : evL l x = some (.slice ao n c)) (hy : evL l y = some (.slice none 0 0)) : Cm P N CH l ⟨dd, .binOp .neq t x y t', ty, pos, aft, g⟩ (.bool (!ao.isNone)) := fun b w ha _ => by
  simp only [execOp, ha.ev hx, ha.ev hy]
  have := run_neq_slice_nil_any w t e ao n c 0 0 ht.und
  cases ao <;> simp [eqGuard] at this ⊢ <;> simp [this]

/-- make([]T, n, m) -/
theorem Sl.make {α : Type} (enc : α → Value) {e : TypeId} (z0 : α) {bytes : Nat} (ht : SliceT P t e 1 bytes) (hz : (P.info? e).map (·.zero) = some (some (enc z0))) (h1 : (enc z0).oneCell' = true) {k k' : IntKind} {n m : Int}
    (hx : evL l x = some (.int k n)) (hy : evL l y = some (.int k' m)) (h0 : 0 ≤ n) (hnm : n ≤ m) (hn : (bytes : Int) * m ≤ 281474976710656) (hm : m ≤ 9223372036854775807) (hd : Nat.blt d N.n = true)
    (h : ∀ w', Own enc e w'.heap (some ⟨w.heap.size, 0, none⟩) m.toNat (List.replicate n.toNat z0) → w'.heap.size = w.heap.size + 1 → Foot nob w w' → Sl P N ops Q rest ((d, .slice (some ⟨w.heap.size, 0, none⟩) n.toNat m.toNat) :: l) w') :
    Sl P N ops Q (⟨some d, .makeSlice t x y, ty, pos, aft, none⟩ :: rest) l w := by
  obtain ⟨i, z, hi, hz1, hzc, h2, h3⟩ := ht.parts
  have hzz : z = enc z0 := by rw [hi] at hz; simp [hz1] at hz; exact hz
  subst hzz
  have hc : (enc z0).cells = #[enc z0] := by cases he : enc z0 <;> simp_all [Value.cells, Value.oneCell']
  have hr := run_make (P := P) w t e i (enc z0) ht.und hi hz1 k k' n m h0 hnm (by rw [h3]; exact hn) hm
  have hmc : madeCells (enc z0).cells (m.toNat * i.size) = (List.replicate m.toNat (enc z0)).toArray := by
    rw [hc, h2, Nat.mul_one]; apply Array.ext'; rw [toList_madeCells_one]
  rw [hmc] at hr
  refine Sl.eff (w' := w.alloc (.cells (List.replicate m.toNat (enc z0)).toArray e)) (fun a ha => ?_) hd (h _ ?_ (by simp) (Foot.alloc _ _ _))
  · simp only [execOp, ha.ev hx, ha.ev hy, Sem.run_bind, hr, Result.andThen_ok, Sem.run_pure]
  · refine .inr ⟨w.heap.size, _, rfl, heap_alloc_new w _, by simp; omega, by unfold maxLen; omega, by simp, ?_⟩
    simp; omega

theorem Own.set {α : Type} {enc : α → Value} {e : TypeId} {H H' : Array Obj} {ao : Option Addr} {cap : Nat} {xs : List α} (h : Own enc e H ao cap xs) {a : Addr} (ha : ao = some a) {i : Nat} {u : α} {cur : Array Value} (hg : H[a.block]? = some (.cells cur e (0, 0)))
    (hg' : H'[a.block]? = some (.cells (cur.setIfInBounds i (enc u)) e (0, 0))) : Own enc e H' ao cap (xs.set i u) := by
  rcases h with ⟨rfl, _⟩ | ⟨g, cur', rfl, hg2, h1, h2, h3, h4⟩
  · cases ha
  · cases ha
    rw [hg] at hg2
    cases hg2
    refine .inr ⟨g, _, rfl, hg', by simpa using h1, h2, by simpa using h3, ?_⟩
    simp only [List.length_set, Array.toList_setIfInBounds, List.map_set]
    rw [List.take_set, h4]

/-- out[i] = u, out ones own -/
theorem Sl.storeRow {α : Type} {enc : α → Value} (henc : ∀ x, (enc x).oneCell' = true) (ht : scaB P t = true) {e : TypeId} {ao : Option Addr} {cap : Nat} {xs : List α} {z : Int} {u : α} (hx : evL l x = some (.pointer (some (adr ao z.toNat)))) (hy : evL l y = some (enc u))
    (ho : Own enc e w.heap ao cap xs) (hz : 0 ≤ z ∧ z < xs.length)
    (h : ∀ w', Own enc e w'.heap ao cap (xs.set z.toNat u) → w'.heap.size = w.heap.size → Foot (blk ao) w w' → Sl P N ops Q rest l w') :
    Sl P N ops Q (⟨none, .store t x y, ty, pos, aft, none⟩ :: rest) l w := by
  have ho2 := ho
  rcases ho with ⟨rfl, _, rfl⟩ | ⟨g, cur, rfl, hg, h1, h2, h3, h4⟩
  · simp at hz; omega
  · have hi : z.toNat < cur.toList.length := by simp [h3]; omega
    have e1 : adr (some (⟨g, 0, none⟩ : Addr)) z.toNat = ⟨g, z.toNat, none⟩ := by
      show (⟨g, 0, none⟩ : Addr).add _ = _
      rw [Addr.add_lit, Nat.zero_add]
    rw [e1] at hx
    refine Sl.store (cur := cur.toList) (T := e) ht hx hy (henc u) (by simpa using hg) (by simpa [Nat.blt_eq] using hi) ?_
    intro w' hw hs hf
    refine h w' (Own.set ho2 (i := z.toNat) rfl hg ?_) hs (hf.mono (fun k hk => ⟨_, rfl, hk.symm⟩))
    rw [hw]
    congr 2
    apply Array.ext'; simp
end
end Go.Proofs.Ytpnfjfbfgaiolaa
