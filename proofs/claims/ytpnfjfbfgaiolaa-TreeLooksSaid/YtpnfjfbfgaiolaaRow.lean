/- Rows of elements of several cells: what is read, what is ones own, append, literals, loads and stores of a whole element. No condition. -/
import Derived.Test.YtpnfjfbfgaiolaaOpb
import Derived.Laws.Rows
namespace Go.Proofs.Ytpnfjfbfgaiolaa
open Go Go.RowKit

theorem cellH_lt {H : Array Obj} {a : Addr} {v : Value} (h : cellH H a = some v) : a.block < H.size := by
  unfold cellH at h
  split at h
  · rename_i hb; exact (Array.getElem?_eq_some_iff.1 hb).1
  · cases h
theorem cellH_keep {w w' : World} {S : Nat → Prop} {a : Addr} {v : Value} (h : cellH w.heap a = some v) (f : Foot S w w') (hs : ¬ S a.block) : cellH w'.heap a = some v := by
  have hl := cellH_lt h
  unfold cellH at h ⊢
  rw [f.same _ hl hs]; exact h

/-- A slice of k-cell elements that reads as xs. -/
structure VwM {α : Type} (k : Nat) (enc : α → List Value) (H : Array Obj) (ao : Option Addr) (cap : Nat) (xs : List α) : Prop where
  le : xs.length ≤ cap
  max : cap ≤ maxLen
  non : xs.length ≠ 0 → ao ≠ none
  get : ∀ i x, xs[i]? = some x → ∀ j v, (enc x)[j]? = some v → cellH H (adr ao (i * k + j)) = some v

section
variable {α : Type} {k : Nat} {enc : α → List Value} {H : Array Obj} {ao : Option Addr} {cap : Nat} {xs : List α}
theorem VwM.nil (c : Nat) (hc : c ≤ maxLen) : VwM k enc H ao c [] := ⟨by simp, hc, by simp, by simp⟩
theorem VwM.len63 (h : VwM k enc H ao cap xs) : (xs.length : Int) ≤ 9223372036854775807 := by have := h.le; have := h.max; unfold maxLen at this; omega
theorem VwM.keep {w w' : World} {S : Nat → Prop} (h : VwM k enc w.heap ao cap xs) (f : Foot S w w') (hs : ∀ a, ao = some a → ¬ S a.block) : VwM k enc w'.heap ao cap xs := by
  refine ⟨h.le, h.max, h.non, fun i x hx j v hv => cellH_keep (h.get i x hx j v hv) f ?_⟩
  have hne : xs.length ≠ 0 := by have := (List.getElem?_eq_some_iff.1 hx).1; omega
  cases hao : ao with
  | none => exact absurd hao (h.non hne)
  | some a => rw [adr_block]; exact hs a hao
theorem VwM.grow {w w' : World} (h : VwM k enc w.heap ao cap xs) (f : Foot nob w w') : VwM k enc w'.heap ao cap xs := h.keep f (fun _ _ => id)
theorem VwM.take (h : VwM k enc H ao cap xs) (n : Nat) : VwM k enc H ao cap (xs.take n) :=
  ⟨by have := h.le; simp; omega, h.max, fun hn => h.non (fun e => hn (by have : xs = [] := List.eq_nil_of_length_eq_zero e; simp [this])), fun i x hx => h.get i x (by
    rw [List.getElem?_take] at hx
    split at hx
    · exact hx
    · cases hx)⟩
/-- the cells of an element, at its address -/
theorem VwM.row (h : VwM k enc H ao cap xs) {i : Nat} {x : α} (hx : xs[i]? = some x) : ∀ j v, (enc x)[j]? = some v → cellH H ((adr ao (i * k)).add j) = some v := fun j v hv => by
  have h1 := h.get i x hx j v hv
  rwa [adr, ← adr_add] at h1
theorem VwM.rowZ (h : VwM k enc H ao cap xs) {z : Int} (i : Nat) (hz : z = i) {x : α} (hx : xs[i]? = some x) : ∀ j v, (enc x)[j]? = some v → cellH H ((adr ao (z.toNat * k)).add j) = some v := by
  subst hz; exact h.row hx
theorem VwM.lt (h : VwM k enc H ao cap xs) (hne : xs ≠ []) (henc : ∀ x, enc x ≠ []) : Lt H.size ao := fun a ha => by
  have hl : 0 < xs.length := List.length_pos_iff.2 hne
  have hq : (enc xs[0])[0]? = some ((enc xs[0])[0]'(List.length_pos_iff.2 (henc _))) := List.getElem?_eq_getElem _
  have h1 := cellH_lt (h.get 0 xs[0] (List.getElem?_eq_getElem hl) 0 _ hq)
  subst ha
  rwa [adr_block] at h1
theorem VwM.cut (v : VwM k enc H ao cap xs) {l h m : Nat} (hl : l ≤ h) (hh : h ≤ xs.length) (hm : h ≤ m) (hmc : m ≤ cap) :
    VwM k enc H (cutAo ao m l k) (m - l) ((xs.drop l).take (h - l)) := by
  refine ⟨by simp; omega, by have := v.max; omega, fun hne => ?_, fun i x hx j u hu => ?_⟩
  · have h0 : xs.length ≠ 0 := by simp at hne; omega
    have := v.non h0
    unfold cutAo
    split
    · exact this
    · cases ao <;> simp_all
  · have hi : i < h - l := by
      have := (List.getElem?_eq_some_iff.1 hx).1; simp at this; omega
    have hx' : xs[l + i]? = some x := by
      rw [List.getElem?_take, if_pos hi, List.getElem?_drop] at hx; exact hx
    have h1 := v.get (l + i) x hx' j u hu
    rw [← h1]
    unfold cutAo
    rw [if_neg (by omega)]
    cases ao with
    | none => exact absurd rfl (v.non (by have := (List.getElem?_eq_some_iff.1 hx').1; omega))
    | some a => simp [adr, adr_add, Nat.add_mul, Nat.add_assoc]
end

/-- A slice of k-cell elements that owns its whole block (or is nil). -/
def OwnM {α : Type} (k : Nat) (enc : α → List Value) (e : TypeId) (H : Array Obj) (ao : Option Addr) (cap : Nat) (xs : List α) : Prop :=
  (ao = none ∧ cap = 0 ∧ xs = []) ∨
  ∃ g cur, ao = some ⟨g, 0, none⟩ ∧ H[g]? = some (.cells cur e (0, 0)) ∧ xs.length ≤ cap ∧ cap ≤ maxLen ∧ cur.size = cap * k ∧ cur.toList.take (xs.length * k) = xs.flatMap enc

/-- each element has k cells -/
def CellsM {α : Type} (k : Nat) (enc : α → List Value) : Prop := ∀ x, (enc x).length = k ∧ ∀ v ∈ enc x, v.oneCell' = true

theorem flatMap_len {α : Type} {k : Nat} {enc : α → List Value} (hk : ∀ x, (enc x).length = k) : ∀ xs : List α, (xs.flatMap enc).length = xs.length * k
  | [] => by simp
  | x :: r => by simp [flatMap_len hk r, hk x, Nat.add_mul]; omega
theorem flatMap_at {α : Type} {k : Nat} {enc : α → List Value} (hk : ∀ x, (enc x).length = k) : ∀ (xs : List α) (i : Nat) (x : α), xs[i]? = some x → ∀ j v, (enc x)[j]? = some v → (xs.flatMap enc)[i * k + j]? = some v
  | [], i, x, h, j, v, hv => by simp at h
  | y :: r, 0, x, h, j, v, hv => by
    simp at h; subst h
    have : j < (enc y).length := (List.getElem?_eq_some_iff.1 hv).1
    simp [List.getElem?_append_left this, hv]
  | y :: r, i + 1, x, h, j, v, hv => by
    have := flatMap_at hk r i x (by simpa using h) j v hv
    rw [List.flatMap_cons, List.getElem?_append_right (by rw [hk y]; rw [Nat.add_mul]; omega), hk y]
    rw [← this]; congr 1; rw [Nat.add_mul]; omega
theorem flatMap_of {α : Type} {k : Nat} {enc : α → List Value} (hk : ∀ x, (enc x).length = k) (hk0 : 0 < k) : ∀ (xs : List α) (q : Nat) (v : Value), (xs.flatMap enc)[q]? = some v → ∃ x, xs[q / k]? = some x ∧ (enc x)[q % k]? = some v
  | [], q, v, h => by simp at h
  | y :: r, q, v, h => by
    rw [List.flatMap_cons] at h
    by_cases hq : q < k
    · rw [List.getElem?_append_left (by rw [hk y]; exact hq)] at h
      exact ⟨y, by simp [Nat.div_eq_of_lt hq], by rwa [Nat.mod_eq_of_lt hq]⟩
    · rw [List.getElem?_append_right (by rw [hk y]; omega), hk y] at h
      obtain ⟨x, h1, h2⟩ := flatMap_of hk hk0 r (q - k) v h
      refine ⟨x, ?_, ?_⟩
      · rw [show q / k = (q - k) / k + 1 from by rw [← Nat.add_div_right _ hk0, Nat.sub_add_cancel (by omega)]]; simpa using h1
      · rwa [show q % k = (q - k) % k from by rw [← Nat.add_mod_right (q - k), Nat.sub_add_cancel (by omega)]]

section
variable {α : Type} {k : Nat} {enc : α → List Value} {e : TypeId} {H : Array Obj} {ao : Option Addr} {cap : Nat} {xs : List α}
theorem OwnM.nil : OwnM k enc e H none 0 ([] : List α) := .inl ⟨rfl, rfl, rfl⟩
theorem OwnM.lt (h : OwnM k enc e H ao cap xs) : Lt H.size ao := by
  intro a ha
  rcases h with ⟨rfl, _⟩ | ⟨g, cur, rfl, hg, _⟩
  · cases ha
  · cases ha; exact (Array.getElem?_eq_some_iff.1 hg).1
theorem OwnM.keep {w w' : World} {S : Nat → Prop} (h : OwnM k enc e w.heap ao cap xs) (f : Foot S w w') (hs : ∀ a, ao = some a → ¬ S a.block) : OwnM k enc e w'.heap ao cap xs := by
  rcases h with h | ⟨g, cur, rfl, hg, r⟩
  · exact .inl h
  · exact .inr ⟨g, cur, rfl, f.obj hg (hs _ rfl), r⟩
theorem OwnM.grow {w w' : World} (h : OwnM k enc e w.heap ao cap xs) (f : Foot nob w w') : OwnM k enc e w'.heap ao cap xs := h.keep f (fun _ _ => id)
theorem OwnM.vw (hk : CellsM k enc) (h : OwnM k enc e H ao cap xs) : VwM k enc H ao cap xs := by
  rcases h with ⟨rfl, rfl, rfl⟩ | ⟨g, cur, rfl, hg, h1, h2, h3, h4⟩
  · exact VwM.nil 0 (Nat.zero_le _)
  · refine ⟨h1, h2, fun _ => by simp, fun i x hx j v hv => ?_⟩
    have hi : i < xs.length := (List.getElem?_eq_some_iff.1 hx).1
    have hj : j < k := by have := (List.getElem?_eq_some_iff.1 hv).1; rwa [(hk x).1] at this
    have hadd : (adr (some ⟨g, 0, none⟩) (i * k + j)) = ⟨g, i * k + j, none⟩ := by
      show (⟨g, 0, none⟩ : Addr).add _ = _
      rw [Addr.add_lit, Nat.zero_add]
    rw [hadd]
    simp only [cellH, hg]
    have h5 := flatMap_at (fun x => (hk x).1) xs i x hx j v hv
    have hlt : i * k + j < xs.length * k := by
      have := Nat.mul_le_mul_right k (show i + 1 ≤ xs.length from hi)
      rw [Nat.add_mul] at this; omega
    rw [← h4, List.getElem?_take, if_pos hlt] at h5
    simpa using h5
end

/-- append(out, x..): out ones own, x whatever reads as a list. -/
theorem run_append_ownM {α : Type} {k : Nat} {enc : α → List Value} (henc : CellsM k enc) (hk0 : 0 < k) {P : Program} {w : World} {t ty e : TypeId} {bytes : Nat} (ht : SliceT P t e k bytes)
    {ao : Option Addr} {cap : Nat} {xs : List α} (ho : OwnM k enc e w.heap ao cap xs) {bo : Option Addr} {bcap : Nat} {ys : List α} (hy : VwM k enc w.heap bo bcap ys)
    (hb : (xs.length + ys.length) * bytes ≤ 140737488355328) (hm : xs.length + ys.length ≤ maxLen) :
    ∃ ao' cap' w', (Builtin.append_ #[t, t] ty #[.slice ao xs.length cap, .slice bo ys.length bcap]).run P w = .ok (.slice ao' (xs.length + ys.length) cap') w' ∧
      OwnM k enc e w'.heap ao' cap' (xs ++ ys) ∧ Foot (blk ao) w w' ∧ (∀ a, ao' = some a → ao = some a ∨ w.heap.size ≤ a.block) ∧ (ao' = none → ao = none ∧ ys = []) := by
  obtain ⟨i, z, hi, h1, hz, h2, h3⟩ := ht.parts
  have hkl : ∀ x, (enc x).length = k := fun x => (henc x).1
  have hnews1 : ∀ u ∈ ys.flatMap enc, u.oneCell' = true := by intro u hu; obtain ⟨x, _, hx⟩ := List.mem_flatMap.1 hu; exact (henc x).2 u hx
  have hsmall : xs.length + ys.length ≤ 9223372036854775807 := by unfold maxLen at hm; omega
  by_cases hys : ys = []
  · subst hys
    refine ⟨ao, cap, w, ?_, by simpa using ho, Foot.refl _ _, fun a ha => .inl ha, fun h => ⟨h, rfl⟩⟩
    exact run_append_nothing ht.und hi (ho.vw henc).le
  · have hne : ys.length ≠ 0 := fun e => hys (List.eq_nil_of_length_eq_zero e)
    obtain ⟨b, rfl⟩ : ∃ b, bo = some b := Option.ne_none_iff_exists'.1 (hy.non hne)
    have hnews : ∀ j u, (ys.flatMap enc)[j]? = some u → w.cell? (b.add j) = some u := by
      intro j u hu
      obtain ⟨x, hx1, hx2⟩ := flatMap_of hkl hk0 ys j u hu
      have := hy.get _ x hx1 _ u hx2
      rwa [Nat.mul_comm, Nat.div_add_mod] at this
    have hl : (ys.flatMap enc).length = ys.length * i.size := by rw [flatMap_len hkl, h2]
    have big : ∀ (old : Nat), old < xs.length + ys.length → OwnM k enc e (w.drew.alloc (.cells ((xs.flatMap enc).toArray ++ (ys.flatMap enc).toArray ++ Builtin.zeroCells z.cells (grownCap w (xs.length + ys.length) old e - (xs.length + ys.length))) e)).heap
        (some ⟨w.heap.size, 0, none⟩) (grownCap w (xs.length + ys.length) old e) (xs ++ ys) := by
      intro old _
      have hge := grownCap_ge w (xs.length + ys.length) old e
      refine .inr ⟨w.heap.size, _, rfl, heap_alloc_new w.drew _, by simpa using hge, grownCap_le_maxLen w _ old e hm, ?_, ?_⟩
      · simp only [Array.size_append, List.size_toArray, flatMap_len hkl, size_zeroCells, hz]; rw [← Nat.add_mul, ← Nat.add_mul]; congr 1; omega
      · have h6 : ((xs ++ ys).flatMap enc).length = (xs ++ ys).length * k := flatMap_len hkl _
        rw [List.flatMap_append] at h6 ⊢
        simp only [Array.toList_append]
        rw [List.take_append_of_le_length (by rw [h6]; exact Nat.le_refl _)]
        exact List.take_of_length_le (by rw [h6]; exact Nat.le_refl _)
    have hfoot : ∀ (old : Nat), Foot (blk ao) w (w.drew.alloc (.cells ((xs.flatMap enc).toArray ++ (ys.flatMap enc).toArray ++ Builtin.zeroCells z.cells (grownCap w (xs.length + ys.length) old e - (xs.length + ys.length))) e)) := fun old => Foot.drawAlloc _ _ _
    rcases ho with ⟨rfl, rfl, rfl⟩ | ⟨g, cur, rfl, hg, g1, g2, g3, g4⟩
    · have hr := run_append_nil (P := P) w t ty e i z ht.und hi h1 b ys.length bcap (ys.flatMap enc) hl hnews (by omega) (by simp at hsmall; omega) (by simp at hb; rw [h3]; omega)
      have hB := big 0 (by simp; omega)
      have hF := hfoot 0
      simp only [List.length_nil, Nat.zero_add, List.flatMap_nil, List.nil_append, Array.empty_append] at hB hF ⊢
      exact ⟨_, _, _, hr, hB, hF, fun a ha => .inr (by cases ha; exact Nat.le_refl _), fun h => by cases h⟩
    · have holds : ∀ j v, (xs.flatMap enc)[j]? = some v → w.cell? ((⟨g, 0, none⟩ : Addr).add j) = some v := by
        intro j v hv
        obtain ⟨x, hx1, hx2⟩ := flatMap_of hkl hk0 xs j v hv
        have := (OwnM.vw henc (.inr ⟨g, cur, rfl, hg, g1, g2, g3, g4⟩ : OwnM k enc e w.heap (some ⟨g, 0, none⟩) cap xs)).get _ x hx1 _ v hx2
        rwa [Nat.mul_comm, Nat.div_add_mod] at this
      by_cases hroom : xs.length + ys.length ≤ cap
      · have hmul : (xs.length + ys.length) * k ≤ cap * k := Nat.mul_le_mul_right k hroom
        have hmul2 := hmul
        rw [Nat.add_mul] at hmul2
        have hr := run_append_room (P := P) w t ty e i ht.und hi g xs.length cap cur hg b ys.length bcap (ys.flatMap enc) hl hnews hnews1 hroom (by rw [flatMap_len hkl, h2, g3]; exact hmul2)
        have hcl : cur.toList.length = cap * k := by simp [g3]
        have hle1 : xs.length * k ≤ cap * k := Nat.mul_le_mul_right k (by omega)
        have hlen1 : (cur.toList.take (xs.length * k)).length = xs.length * k := by rw [List.length_take, hcl, Nat.min_eq_left hle1]
        refine ⟨_, _, _, hr, .inr ⟨g, _, rfl, setRow_heap w g cur _ e _ hg, by simpa using hroom, g2, ?_, ?_⟩, ?_, fun a ha => .inl ha, fun h => by cases h⟩
        · rw [h2]; simp only [List.size_toArray, List.length_append, hlen1, flatMap_len hkl, List.length_drop, Array.length_toList, g3]; omega
        · have h6 : ((xs ++ ys).flatMap enc).length = (xs ++ ys).length * k := flatMap_len hkl _
          rw [h2, g4, List.flatMap_append] at *
          rw [List.take_append_of_le_length (by rw [h6]; exact Nat.le_refl _)]
          exact List.take_of_length_le (by rw [h6]; exact Nat.le_refl _)
        · exact ⟨rfl, rfl, rfl, by simp [World.setRow], fun k hk hn => setRow_other w g k _ (fun e => hn ⟨_, rfl, e.symm⟩)⟩
      · have hr := run_append_grow (P := P) w t ty e i z ht.und hi h1 ⟨g, 0, none⟩ xs.length cap (xs.flatMap enc) (by rw [flatMap_len hkl, h2]) holds b ys.length bcap (ys.flatMap enc) hl hnews (by omega) (by omega)
          (by rw [h3]; exact growslice_fits (by omega) hb)
        exact ⟨_, _, _, hr, big cap (by omega), hfoot cap, fun a ha => .inr (by cases ha; exact Nat.le_refl _), fun h => by cases h⟩

/-- a type whose variables are k cells -/
def aggB (P : Program) (t : TypeId) (k : Nat) : Bool :=
  (match P.underlying t with | some (.struct _) | some (.array _ _) => true | _ => false) && ((P.info? t).map (·.size) == some k)
theorem aggB_isAgg {P : Program} {t : TypeId} {k : Nat} (h : aggB P t k = true) (w : World) : (Go.isAgg t).run P w = .ok true w := by
  simp only [aggB, Bool.and_eq_true] at h
  unfold Go.isAgg
  cases hu : P.underlying t with
  | none => simp [hu] at h
  | some d => rw [Sem.run_bind, run_underlying hu w]; cases d <;> simp_all
theorem aggB_size {P : Program} {t : TypeId} {k : Nat} (h : aggB P t k = true) (w : World) : (sizeOf t).run P w = .ok k w := by
  simp only [aggB, Bool.and_eq_true, beq_iff_eq] at h
  obtain ⟨i, hi, h1⟩ := Option.map_eq_some_iff.1 h.2
  simp [sizeOf, typeInfo, hi, h1]

section
variable {P : Program} {N : Nt} {Q : Exit → Act → World → Prop} {l : SF} {w : World} {ops : Array Oper} {rest : List Oper}
variable {op : Op} {ty : TypeId} {pos : String} {aft : Array Edge} {d : Nat} {v : Value} {CH : Array Obj → Prop}
variable {x y : Operand} {t t' : TypeId} {g : Option (Nat × Bool)} {dd : Option Nat}

theorem Cm.loadM {ad : Addr} {cs : List Value} (ht : aggB P t cs.length = true) (hx : evL l x = some (.pointer (some ad))) (hc : ∀ H, CH H → ∀ j v, cs[j]? = some v → cellH H (ad.add j) = some v) :
    Cm P N CH l ⟨dd, .load t x, ty, pos, aft, g⟩ (.agg cs.toArray) := fun a w ha hw => by
  have h1 := hc _ hw
  have hl := run_loadCells_list (P := P) w ad cs h1
  simp only [execOp, ha.ev hx, Instr.loadAt, Instr.sureAddr, Sem.run_bind, loadVar, aggB_isAgg ht w, aggB_size ht w, Result.andThen_ok, Sem.run_pure, if_true, hl]
theorem Cm.ldM {H : Array Obj} {ad : Addr} {cs : List Value} (ht : aggB P t cs.length = true) (hx : evL l x = some (.pointer (some ad))) (hc : ∀ j v, cs[j]? = some v → cellH H (ad.add j) = some v) :
    Cm P N (· = H) l ⟨dd, .load t x, ty, pos, aft, g⟩ (.agg cs.toArray) := Cm.loadM ht hx (fun _ e => by rw [e]; exact hc)

/-- a store of an element into a block that is known -/
theorem Sl.storeM {b o : Nat} {cur vs : List Value} {T : TypeId} (ht : aggB P t vs.length = true) (hx : evL l x = some (.pointer (some ⟨b, o, none⟩))) (hy : evL l y = some (.agg vs.toArray)) (h1 : ∀ v ∈ vs, v.oneCell' = true)
    (hg : w.heap[b]? = some (.cells cur.toArray T (0, 0))) (ho : o + vs.length ≤ cur.length)
    (h : ∀ w', w'.heap[b]? = some (.cells (cur.take o ++ vs ++ cur.drop (o + vs.length)).toArray T (0, 0)) → w'.heap.size = w.heap.size → Foot (· = b) w w' → Sl P N ops Q rest l w') :
    Sl P N ops Q (⟨none, .store t x y, ty, pos, aft, none⟩ :: rest) l w := by
  have hst := run_storeCells_at P b o T vs 0 cur.toArray w hg (by simpa using ho) h1
  simp only [Nat.add_zero] at hst
  refine Sl.effSkip (w' := _) (fun a ha => ?_) (h (w.setRow b (cur.take o ++ vs ++ cur.drop (o + vs.length)).toArray) ?_ ?_ ?_)
  · simp only [execOp, ha.ev hx, ha.ev hy, Instr.storeAt, Instr.sureAddr, Sem.run_bind, storeVar, aggB_size ht w, Result.andThen_ok, Sem.run_pure, Value.cells, List.size_toArray, ne_eq, not_true, if_false, hst]
  · exact setRow_heap w b cur.toArray _ T _ hg
  · simp [World.setRow]
  · exact ⟨rfl, rfl, rfl, by simp [World.setRow], fun k hk hn => setRow_other w b k _ (fun e => hn e)⟩
/-- .. into a variable, whole -/
theorem Sl.storeAll {b : Nat} {cur vs : List Value} {T : TypeId} (ht : aggB P t vs.length = true) (hx : evL l x = some (.pointer (some ⟨b, 0, none⟩))) (hy : evL l y = some (.agg vs.toArray)) (h1 : ∀ v ∈ vs, v.oneCell' = true)
    (hg : w.heap[b]? = some (.cells cur.toArray T (0, 0))) (ho : vs.length = cur.length)
    (h : ∀ w', w'.heap[b]? = some (.cells vs.toArray T (0, 0)) → w'.heap.size = w.heap.size → Foot (· = b) w w' → Sl P N ops Q rest l w') :
    Sl P N ops Q (⟨none, .store t x y, ty, pos, aft, none⟩ :: rest) l w := by
  refine Sl.storeM ht hx hy h1 hg (by omega) (fun w' h2 h3 h4 => h w' ?_ h3 h4)
  rw [h2]; simp [ho]

theorem Sl.appendM {α : Type} {k : Nat} {enc : α → List Value} (henc : CellsM k enc) (hk0 : Nat.blt 0 k = true) {e : TypeId} {bytes : Nat} (ht : SliceT P t e k bytes)
    {ao bo : Option Addr} {cap bcap : Nat} {xs ys : List α} (hx : evL l x = some (.slice ao xs.length cap)) (hy : evL l y = some (.slice bo ys.length bcap))
    (ho : OwnM k enc e w.heap ao cap xs) (hv : VwM k enc w.heap bo bcap ys)
    (hb : (xs.length + ys.length) * bytes ≤ 140737488355328) (hm : xs.length + ys.length ≤ maxLen) (hd : Nat.blt d N.n = true)
    (h : ∀ ao' cap' w', OwnM k enc e w'.heap ao' cap' (xs ++ ys) → Foot (blk ao) w w' → (∀ a, ao' = some a → ao = some a ∨ w.heap.size ≤ a.block) → (ao' = none → ao = none ∧ ys = []) →
      Sl P N ops Q rest ((d, .slice ao' (xs ++ ys).length cap') :: l) w') :
    Sl P N ops Q (⟨some d, .call ⟨.builtin .append, #[x, y], #[t, t]⟩, ty, pos, aft, none⟩ :: rest) l w := by
  obtain ⟨ao', cap', w', hr, h1, h2, h3, h4⟩ := run_append_ownM henc (by simpa [Nat.blt_eq] using hk0) (ty := ty) ht ho hv hb hm
  refine Sl.eff (w' := w') (v := .slice ao' (xs ++ ys).length cap') (fun a ha => ?_) hd (h ao' cap' w' h1 h2 h3 h4)
  simp [execOp, ha.ev hx, ha.ev hy, resolve, invoke, builtin, hr]

/-- a literal of a row: its cells -/
theorem Sl.litG {e : TypeId} {size bytes : Nat} (ht : SliceT P t e size bytes) {n : Nat} {parts : List (Nat × Operand)} {vs : List (Nat × Value)} {zc cs : Array Value}
    (hz : (P.info? e).map (fun i => i.zero.map (·.cells)) = some (some zc)) (hn : Nat.ble (n * size) 16777216 = true) (hn0 : Nat.blt 0 (n * size) = true) (hx : evPs l parts = some vs)
    (hf : Instr.fill (fun i => some (i * size, size)) ((Array.range (n * size)).map (zc[· % zc.size]!)) vs = some cs) (hd : Nat.blt d N.n = true)
    (h : ∀ w', w'.heap[w.heap.size]? = some (.cells cs e (0, 0)) → w'.heap.size = w.heap.size + 1 → Foot nob w w' → Sl P N ops Q rest ((d, .slice (some ⟨w.heap.size, 0, none⟩) n n) :: l) w') :
    Sl P N ops Q (⟨some d, .buildSlice t n parts.toArray, ty, pos, aft, none⟩ :: rest) l w := by
  obtain ⟨i, hi, h1⟩ := Option.map_eq_some_iff.1 hz
  obtain ⟨z, hz', rfl⟩ := Option.map_eq_some_iff.1 h1
  have hn' : ¬ (n * size > 2 ^ 24) := by have : n * size ≤ 16777216 := by simpa [Nat.ble_eq] using hn
                                         show ¬ (_ > 16777216); omega
  have hn0' : ¬ (n * size = 0) := by have : 0 < n * size := by simpa [Nat.blt_eq] using hn0
                                     omega
  refine Sl.eff (w' := w.alloc (.cells cs e)) (fun a ha => ?_) hd (h _ (heap_alloc_new w _) (by simp) (Foot.alloc _ _ _))
  have hv := ha.evPs hx
  simp only [execOp, Instr.buildSlice, Sem.run_bind, run_underlying ht.und, ht.size, Result.andThen_ok, if_neg hn', if_neg hn0', Sem.run_pure, zeroValue, typeInfo, run_program, hi, hz', List.map_toArray, hv]
  rw [hf]
  simp [newRow]
theorem ownM_new {α : Type} {k : Nat} {enc : α → List Value} (hk : CellsM k enc) {e : TypeId} {H : Array Obj} {g : Nat} {xs : List α} (hg : H[g]? = some (.cells (xs.flatMap enc).toArray e (0, 0))) (hm : xs.length ≤ maxLen) : OwnM k enc e H (some ⟨g, 0, none⟩) xs.length xs :=
  .inr ⟨g, _, rfl, hg, Nat.le_refl _, hm, by simp [flatMap_len (fun x => (hk x).1)], by simp; exact List.take_of_length_le (by rw [flatMap_len (fun x => (hk x).1)]; exact Nat.le_refl _)⟩
/-- a call of a function that stands in a slot -/
theorem run_callV {f : FuncId} {xs : List Operand} {vs : List Value} {ts : Array TypeId} {a : Act} (hf : fnB P f = true) (ha : HasL N l a) (hc : evL l x = some (.func (.func f) #[] #[])) (hx : evLs l xs = some vs) :
    (execOp a.eval ⟨dd, .call ⟨.value x, xs.toArray, ts⟩, ty, pos, aft, g⟩).run P w = .ok (.enter f vs.toArray) w := by
  have h1 := ha.ev hc
  simp [execOp, resolve, h1, Deferred.ofValue, invoke, run_callFunc_fnB hf]
  rw [← ha.evs hx]
theorem Sl.callV {f : FuncId} {xs : List Operand} {vs : List Value} {ts : Array TypeId} (hf : fnB P f = true) (hc0 : evL l x = some (.func (.func f) #[] #[])) (hx : evLs l xs = some vs) {R : Value → World → Prop} (hc : Calls P f vs.toArray w (Ret R)) (hd : Nat.blt d N.n = true)
    (h : ∀ v w', R v w' → Sl P N ops Q rest ((d, v) :: l) w') :
    Sl P N ops Q (⟨some d, .call ⟨.value x, xs.toArray, ts⟩, ty, pos, aft, none⟩ :: rest) l w := fun a ha => by
  unfold wpList
  rw [if_pos (by simp [Region.wanted])]
  refine .inl ?_
  unfold Oper.wp
  rw [run_callV hf ha hc0 hx]
  refine hc.mono ?_
  rintro e w' ⟨v, rfl, hR⟩
  exact h v w' hR _ (ha.put hd v)

/-- structs that are compared: fields of one cell, numbers, texts, Bools -/
def okV (P : Program) (t : TypeId) (v : Value) : Prop :=
  match P.underlying t, v with
  | some (.int k), .int k' _ => k' = k
  | some .string, .string _ => True
  | some .bool, .bool _ => True
  | _, _ => False
theorem eqFields_ok {P : Program} (w : World) {d d1 : Nat} (hd1 : d1 = d + 1) {xs ys : Array Value} : ∀ (fs : List Field), (∀ f ∈ fs, f.name ≠ "_" ∧ ∃ a b, xs[f.offset]? = some a ∧ ys[f.offset]? = some b ∧ okV P f.type a ∧ okV P f.type b) →
    ∃ r, (Op.eqFields d1 xs ys fs).run P w = .ok r w ∧ (r = true ↔ ∀ f ∈ fs, xs[f.offset]? = ys[f.offset]?)
  | [], _ => ⟨true, by simp [Op.eqFields], by simp⟩
  | f :: fs, h => by
    subst hd1
    obtain ⟨h1, a, b, h2, h3, h4, h5⟩ := h f (by simp)
    obtain ⟨r, hr, hr2⟩ := eqFields_ok (d := d) w rfl fs (fun g hg => h g (by simp [hg]))
    have hag : (isAgg f.type).run P w = .ok false w := by
      unfold isAgg okV at *
      cases hu : P.underlying f.type with
      | none => simp [hu] at h4
      | some u => rw [Sem.run_bind, run_underlying hu w]; cases u <;> simp_all
    have hpa : (part f.type xs f.offset).run P w = .ok a w := by
      unfold part; rw [Sem.run_bind, hag]; simp [h2]
    have hpb : (part f.type ys f.offset).run P w = .ok b w := by
      unfold part; rw [Sem.run_bind, hag]; simp [h3]
    have he : ∃ q, (Op.equalIn (d + 1) f.type a b).run P w = .ok q w ∧ (q = true ↔ a = b) := by
      unfold okV at h4 h5
      cases hu : P.underlying f.type with
      | none => simp [hu] at h4
      | some u =>
        cases u <;> simp [hu] at h4 h5 <;> cases a <;> simp at h4 <;> cases b <;> simp at h5
        case int.int.int k k1 m k2 n => subst h4; subst h5; exact ⟨m == n, run_equalIn_int w d _ _ _ m n hu, by simp⟩
        case string.string.string m n => exact ⟨_, run_equalIn_string w d _ m n hu, by rw [beq_iff_eq, ByteArray.toList_eq, ByteArray.toList_eq]; simp [ByteArray.ext_iff]⟩
        case bool.bool.bool m n => exact ⟨_, run_equalIn_bool w d _ m n hu, by simp⟩
    obtain ⟨q, hq, hq2⟩ := he
    refine ⟨q && r, ?_, ?_⟩
    · unfold Op.eqFields
      rw [if_pos h1]
      simp only [Sem.run_bind, hpa, hpb, hq, Result.andThen_ok]
      cases q <;> simp [hr]
    · rw [Bool.and_eq_true, hq2, hr2]
      simp [h2, h3]

/-- new(T) -/
theorem Sl.allocC {T : TypeId} {zc : Array Value} (hz : (P.info? T).map (fun i => i.zero.map (·.cells)) = some (some zc)) (hd : Nat.blt d N.n = true)
    (h : ∀ w', w'.heap[w.heap.size]? = some (.cells zc T (0, 0)) → w'.heap.size = w.heap.size + 1 → Foot nob w w' → Sl P N ops Q rest ((d, .pointer (some ⟨w.heap.size, 0, none⟩)) :: l) w') :
    Sl P N ops Q (⟨some d, .alloc T, ty, pos, aft, none⟩ :: rest) l w := by
  obtain ⟨i, hi, h1⟩ := Option.map_eq_some_iff.1 hz
  obtain ⟨z, hz', rfl⟩ := Option.map_eq_some_iff.1 h1
  refine Sl.eff (w' := w.alloc (.cells z.cells T)) (fun a ha => ?_) hd (h _ (heap_alloc_new w _) (by simp) (Foot.alloc _ _ _))
  simp [execOp, Instr.alloc, zeroValue, typeInfo, hi, hz', newVar, newRow]
theorem Cm.notB {b : Bool} (hx : evL l x = some (.bool b)) : Cm P N CH l ⟨dd, .unOp .not t x, ty, pos, aft, g⟩ (.bool (decide (b = false))) := by
  have h := @Cm.not P N l ty pos aft CH x t g dd b hx
  cases b <;> exact h
/-- a Bool as a question -/
theorem Cm.ofBool {o : Oper} {b : Bool} (h : Cm P N CH l o (.bool b)) : Cm P N CH l o (.bool (decide (b = true))) := by
  have : decide (b = true) = b := by cases b <;> rfl
  rwa [this]
end
end Go.Proofs.Ytpnfjfbfgaiolaa
