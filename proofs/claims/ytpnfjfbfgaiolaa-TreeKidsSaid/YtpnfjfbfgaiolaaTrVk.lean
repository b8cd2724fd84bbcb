/- tree: SortFunc over nodes. No condition beyond the bounds that each states. -/
import Derived.Test.YtpnfjfbfgaiolaaKH
import Derived.Shelf.SlSortCmp.InsertionK
namespace Go.Proofs.Ytpnfjfbfgaiolaa
open Go Go.RowKit Go.Maps Go.Sort
set_option linter.unusedVariables false

section
variable {P : Program} {N : Nt} {Q : Exit → Act → World → Prop} {l : SF} {w : World} {ops : Array Oper} {rest : List Oper} {ty : TypeId} {pos : String} {aft : Array Edge} {x : Operand} {v : Value} {d : Nat}
theorem Sl.boxX {T : TypeId} (hx : evL l x = some v) (hd : Nat.blt d N.n = true)
    (h : ∀ w', w' = w.alloc (.cells v.cells T) → Sl P N ops Q rest ((d, .pointer (some ⟨w.heap.size, 0, none⟩)) :: l) w') :
    Sl P N ops Q (⟨some d, .box T x, ty, pos, aft, none⟩ :: rest) l w := by
  refine Sl.eff (w' := w.alloc (.cells v.cells T)) (fun a ha => ?_) hd (h _ rfl)
  simp [execOp, ha.ev hx, Instr.box, newVar, newRow]
end
theorem canon1_ok (p q : NdH × Nd) (W : World) {D : Nat → Prop} (hp : NmV D W.heap p.1.names p.2.names) (hq : NmV D W.heap q.1.names q.2.names) :
    Calls Try.prog 48 [.agg (encN p).toArray, .agg (encN q).toArray].toArray W (Ret fun v w' => v = .int .i64 (cmpL p.2.names q.2.names) ∧ ∃ o1 o2, w' = (W.alloc o1).alloc o2) := by
  refine calls_of_sc 10 [(0, _), (1, _)] Try.func48 rfl rfl rfl (enter_slots ⟨rfl, rfl, trivial⟩) ?_
  refine Sc.seq ?_
  refine Sc.region ?_
  refine Sl.boxX rfl rfl ?_
  intro w1 hw1
  have hg1 : w1.heap[W.heap.size]? = some (.cells (encN p).toArray 34 (0, 0)) := by rw [hw1]; exact heap_alloc_new W _
  have hf1 : Foot nob W w1 := by rw [hw1]; exact Foot.alloc _ _ _
  obtain ⟨g, hg⟩ : ∃ g, g = W.heap.size := ⟨_, rfl⟩
  rw [← hg] at hg1 ⊢
  refine Sl.boxX rfl rfl ?_
  intro w2 hw2
  have hg2 : w2.heap[w1.heap.size]? = some (.cells (encN q).toArray 34 (0, 0)) := by rw [hw2]; exact heap_alloc_new w1 _
  have hf2 : Foot nob w1 w2 := by rw [hw2]; exact Foot.alloc _ _ _
  obtain ⟨r, hr⟩ : ∃ r, r = w1.heap.size := ⟨_, rfl⟩
  rw [← hr] at hg2 ⊢
  have hgp := hf2.obj hg1 id
  have hp2 := hp.keep (hf1.trans hf2) (fun _ _ => id)
  have hq2 := hq.keep (hf1.trans hf2) (fun _ _ => id)
  refine Sl.calm (Cm.assign rfl) rfl ?_
  refine Sl.nil ?_
  refine At.go ?_
  refine Sc.seq ?_
  refine Sc.region ?_
  refine Sl.calm (Cm.field fld34_0 rfl) rfl ?_
  refine Sl.calm (Cm.ld sca28 rfl (cellF hgp rfl)) rfl ?_
  refine Sl.calm (Cm.field fld34_0 rfl) rfl ?_
  refine Sl.calm (Cm.ld sca28 rfl (cellF hg2 rfl)) rfl ?_
  refine Sl.call fn41 rfl ((by show Calls _ _ [Value.slice p.1.names.a p.1.names.n p.1.names.c, Value.slice q.1.names.a q.1.names.n q.1.names.c].toArray _ _; rw [hp2.1, hq2.1]; exact compare_ok _ _ _ _ p.2.names q.2.names w2 hp2.2.1 hq2.2.1)) rfl ?_
  rintro _ w3 ⟨rfl, hw3⟩
  subst w3
  refine Sl.calm (Cm.assign rfl) rfl ?_
  refine Sl.nil ?_
  refine At.weak [(0, _), (1, _), (2, _), (3, _), (4, _)] ⟨rfl, rfl, rfl, rfl, rfl, trivial⟩ ?_
  refine At.go ?_
  refine Sc.ret ?_
  refine At.ret1 rfl rfl ?_
  exact ⟨_, rfl, rfl, _, _, by rw [hw2, hw1]⟩

/-! the sort\'s worlds -/
theorem sortW_foot {α : Type} [Inhabited α] (enc : α → List Value) (K : Nat) (W : World) (b m : Nat) (dk : Array α) (os : Array Obj) : Foot (· = b) W (sortWorldK enc K W b 0 m dk os) := by
  unfold sortWorldK putRowK putRow mapBlock grow Go.Sort.ahead
  refine ⟨rfl, rfl, rfl, by simp, fun k hk hne => ?_⟩
  show (W.heap.modify b _ ++ os)[k]? = _
  rw [Array.getElem?_append_left (by simpa using hk), Array.getElem?_modify, if_neg (fun e => hne e.symm)]
theorem flatK_get {α : Type} [Inhabited α] {enc : α → List Value} {K : Nat} (hk : ∀ x, (enc x).length = K) (hK : 0 < K) (d : Array α) (t : Nat) (ht : t < d.size * K) : (flatK enc K d)[t]? = (d.toList.flatMap enc)[t]? := by
  have h1 : t / K < d.size := (Nat.div_lt_iff_lt_mul hK).2 ht
  have h2 : t % K < K := Nat.mod_lt _ hK
  have e1 : d.toList[t / K]? = some d[t / K]! := by rw [Array.getElem?_toList, getElem!_pos d _ h1]; exact Array.getElem?_eq_getElem h1
  have e2 : (enc d[t / K]!)[t % K]? = some (enc d[t / K]!)[t % K]! := by
    have : t % K < (enc d[t / K]!).length := by rw [hk]; exact h2
    rw [List.getElem?_eq_getElem this]; exact congrArg some (getElem!_pos (enc d[t / K]!) (t % K) this).symm
  have e3 := flatMap_at hk d.toList (t / K) _ e1 (t % K) _ e2
  rw [Nat.div_add_mod'] at e3
  rw [e3]
  have : t < (flatK enc K d).size := by rw [size_flatK]; exact ht
  rw [Array.getElem?_eq_getElem this, ← getElem!_pos (flatK enc K d) t this, get_flatK enc K d t ht]
theorem flatMap_congr {α β : Type} {f : α → List β} {g : α → List β} {l : List α} (h : ∀ a ∈ l, f a = g a) : l.flatMap f = l.flatMap g := by
  induction l with
  | nil => rfl
  | cons a l ih => rw [List.flatMap_cons, List.flatMap_cons, h a (by simp), ih (fun b hb => h b (by simp [hb]))]
theorem own_holds {α : Type} [Inhabited α] {enc : α → List Value} {K : Nat} (hk : ∀ x, (enc x).length = K) (hK : 0 < K) {W : World} {b : Nat} {cur : Array Value} {T : TypeId} {d : Array α} (hg : W.heap[b]? = some (.cells cur T (0, 0))) (hc : cur.toList.take (d.size * K) = d.toList.flatMap enc) : HoldsK enc K W b 0 d := by
  intro j hj
  rw [size_flatK] at hj
  have h1 := flatK_get hk hK d j hj
  rw [← hc, List.getElem?_take, if_pos hj, Array.getElem?_toList] at h1
  have h2 : j < (flatK enc K d).size := by rw [size_flatK]; exact hj
  have h3 : (flatK enc K d)[j]? = some (flatK enc K d)[j]! := by rw [getElem!_pos _ j h2]; exact Array.getElem?_eq_getElem h2
  refine ⟨?_, ?_⟩
  · show World.cell? W ⟨b, 0 + j, none⟩ = some (flatK enc K d)[j]!
    rw [Nat.zero_add, ← h3, h1]
    simp [World.cell?, hg]
  · simp [World.frozen?, hg]
theorem holds_own {α : Type} [Inhabited α] {enc : α → List Value} {K : Nat} (hk : ∀ x, (enc x).length = K) (hK : 0 < K) {W : World} {b cap m : Nat} {cur : Array Value} {T : TypeId} {d : Array α} {os : Array Obj} (hg : W.heap[b]? = some (.cells cur T (0, 0))) (hl : d.size ≤ cap) (hm : cap ≤ maxLen) (hs : cur.size = cap * K) :
    ∃ cur' : Array Value, (sortWorldK enc K W b 0 m d os).heap[b]? = some (.cells cur' T (0, 0)) ∧ cur'.size = cap * K ∧ cur'.toList.take (d.size * K) = d.toList.flatMap enc := by
  have hb := (Array.getElem?_eq_some_iff.1 hg).1
  refine ⟨putCells id 0 (flatK enc K d) cur, ?_, by simp [putCells, hs], ?_⟩
  · unfold sortWorldK putRowK putRow mapBlock grow Go.Sort.ahead
    show (W.heap.modify b _ ++ os)[b]? = _
    rw [Array.getElem?_append_left (by simpa using hb), Array.getElem?_modify, if_pos rfl, hg]
    rfl
  · apply List.ext_getElem?
    intro t
    have hle : d.size * K ≤ cap * K := Nat.mul_le_mul_right K hl
    by_cases ht : t < d.size * K
    · rw [List.getElem?_take, if_pos ht, Array.getElem?_toList, ← flatK_get hk hK d t ht]
      have h2 : t < (flatK enc K d).size := by rw [size_flatK]; exact ht
      unfold putCells
      rw [Array.getElem?_mapIdx, Array.getElem?_eq_getElem (show t < cur.size by omega), Option.map_some, if_pos ⟨Nat.zero_le _, by omega⟩]
      rw [Array.getElem?_eq_getElem h2, ← getElem!_pos (flatK enc K d) t h2]
      rfl
    · rw [List.getElem?_take, if_neg ht, List.getElem?_eq_none (by rw [flatMap_len hk, Array.length_toList]; omega)]
end Go.Proofs.Ytpnfjfbfgaiolaa
