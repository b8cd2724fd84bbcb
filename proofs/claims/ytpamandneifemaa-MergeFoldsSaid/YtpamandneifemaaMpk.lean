/- Maps: a map in memory as the list of its entries, in the order in which they came up; what is looked up, entered, stored. No condition. -/
import Derived.Test.YtpamandneifemaaGbk
import Derived.Maps.Keyed
import Derived.WideKeyArr2
namespace Go.Proofs.Ytpamandneifemaa
open Go Go.RowKit
set_option linter.unusedVariables false

structure MapT (P : Program) (t k e : TypeId) (z : Value) : Prop where
  und : P.underlying t = some (.map k e)
  zero : (P.info? e).map (·.zero) = some (some z)
/-- values that are keys -/
structure KeyEnc (P : Program) (k : TypeId) {α : Type} (enc : α → Value) : Prop where
  keyed : Go.Maps.Keyed P k
  reads : ∀ a, ∃ l, keyOf P k (enc a) = some l
  inj : ∀ a b, enc a = enc b → a = b

section
variable {α : Type} {enc : α → Value}
def entE (enc : α → Value) (l : List (α × Value)) : List MapEntry := l.mapIdx fun i p => ⟨enc p.1, p.2, i⟩
/-- a map in memory -/
def MapL (enc : α → Value) (H : Array Obj) (g : Nat) (l : List (α × Value)) : Prop := H[g]? = some (.map (entE enc l).toArray l.length) ∧ (l.map (·.1)).Nodup
theorem entE_at {l : List (α × Value)} {j : Nat} {e : MapEntry} (h : (entE enc l)[j]? = some e) : ∃ p, l[j]? = some p ∧ e = ⟨enc p.1, p.2, j⟩ := by
  unfold entE at h
  rw [List.getElem?_mapIdx, Option.map_eq_some_iff] at h
  obtain ⟨p, hp, rfl⟩ := h
  exact ⟨p, hp, rfl⟩
theorem entE_mem {l : List (α × Value)} {e : MapEntry} (h : e ∈ entE enc l) : ∃ p ∈ l, e.key = enc p.1 ∧ e.val = p.2 := by
  obtain ⟨j, hj⟩ := List.getElem?_of_mem h
  obtain ⟨p, hp, rfl⟩ := entE_at hj
  exact ⟨p, List.mem_of_getElem? hp, rfl, rfl⟩
theorem entE_of {l : List (α × Value)} {p : α × Value} (h : p ∈ l) : ∃ e ∈ entE enc l, e.key = enc p.1 ∧ e.val = p.2 := by
  obtain ⟨j, hj⟩ := List.getElem?_of_mem h
  have : (entE enc l)[j]? = some ⟨enc p.1, p.2, j⟩ := by unfold entE; rw [List.getElem?_mapIdx, hj]; rfl
  exact ⟨_, List.mem_of_getElem? this, rfl, rfl⟩
theorem entE_snoc (l : List (α × Value)) (p : α × Value) : entE enc (l ++ [p]) = entE enc l ++ [⟨enc p.1, p.2, l.length⟩] := by
  simp [entE, List.mapIdx_append]
theorem entE_set (l : List (α × Value)) (j : Nat) (p : α × Value) : entE enc (l.set j p) = (entE enc l).set j ⟨enc p.1, p.2, j⟩ := by
  simp [entE, List.mapIdx_set]
theorem entE_len (l : List (α × Value)) : (entE enc l).length = l.length := by simp [entE]

variable [DecidableEq α]
def getM : List (α × Value) → α → Option Value
  | [], _ => none
  | p :: r, a => if p.1 = a then some p.2 else getM r a
theorem getM_none {a : α} : ∀ {l : List (α × Value)}, (∀ p ∈ l, p.1 ≠ a) → getM l a = none
  | [], _ => rfl
  | p :: r, h => by
    unfold getM
    rw [if_neg (h p (by simp))]; exact getM_none (fun q hq => h q (by simp [hq]))
theorem getM_some {a : α} {v : Value} : ∀ {l : List (α × Value)} {j : Nat}, (l.map (·.1)).Nodup → l[j]? = some (a, v) → getM l a = some v
  | [], j, _, h => by simp at h
  | p :: r, 0, _, h => by
    simp at h; subst h
    unfold getM; rw [if_pos rfl]
  | p :: r, j + 1, hn, h => by
    rw [List.map_cons, List.nodup_cons] at hn
    have hm : (a, v) ∈ r := List.mem_of_getElem? (by simpa using h)
    unfold getM
    rw [if_neg (fun e : p.1 = a => hn.1 (e ▸ List.mem_map.2 ⟨_, hm, rfl⟩))]
    exact getM_some hn.2 (by simpa using h)
theorem getM_mem {a : α} {v : Value} : ∀ {l : List (α × Value)}, getM l a = some v → (a, v) ∈ l
  | [], h => by cases h
  | p :: r, h => by
    unfold getM at h
    split at h
    · rename_i e; simp at h; subst e; subst h; simp
    · exact List.mem_cons_of_mem _ (getM_mem h)
theorem getM_snoc {l : List (α × Value)} {a : α} (z : Value) (h : getM l a = none) (x : α) : getM (l ++ [(a, z)]) x = if x = a then some z else getM l x := by
  induction l with
  | nil => simp [getM, eq_comm]
  | cons p r ih =>
    unfold getM at h
    split at h
    · cases h
    · rename_i hne
      have := ih h
      simp only [List.cons_append, getM]
      by_cases hx : p.1 = x
      · rw [if_pos hx, if_pos hx, if_neg (fun e => hne (by rw [hx, e]))]
      · rw [if_neg hx, if_neg hx]; exact this
theorem getM_set {a : α} {v0 : Value} (v : Value) : ∀ {l : List (α × Value)} {j : Nat}, (l.map (·.1)).Nodup → l[j]? = some (a, v0) → ∀ x, getM (l.set j (a, v)) x = if x = a then some v else getM l x
  | [], j, _, h, x => by simp at h
  | p :: r, 0, _, h, x => by
    simp at h; subst h
    simp only [List.set_cons_zero, getM]
    by_cases hx : a = x
    · rw [if_pos hx, if_pos hx.symm]
    · rw [if_neg hx, if_neg (fun e => hx e.symm), if_neg hx]
  | p :: r, j + 1, hn, h, x => by
    rw [List.map_cons, List.nodup_cons] at hn
    have hm : (a, v0) ∈ r := List.mem_of_getElem? (by simpa using h)
    have hne : p.1 ≠ a := fun e => hn.1 (e ▸ List.mem_map.2 ⟨_, hm, rfl⟩)
    have ih := getM_set v hn.2 (j := j) (by simpa using h) x
    simp only [List.set_cons_succ, getM]
    by_cases hx : p.1 = x
    · rw [if_pos hx, if_pos hx, if_neg (fun e => hne (by rw [hx, e]))]
    · rw [if_neg hx, if_neg hx]; exact ih
def setM (l : List (α × Value)) (a : α) (v : Value) : List (α × Value) := match l with
  | [] => [(a, v)]
  | p :: r => if p.1 = a then (a, v) :: r else p :: setM r a v
theorem setM_none {a : α} (v : Value) : ∀ {l : List (α × Value)}, getM l a = none → setM l a v = l ++ [(a, v)]
  | [], _ => rfl
  | p :: r, h => by
    unfold getM at h
    split at h
    · cases h
    · rename_i hne; unfold setM; rw [if_neg hne, setM_none v h]; rfl
theorem setM_some {a : α} {v0 : Value} (v : Value) : ∀ {l : List (α × Value)} {j : Nat}, (l.map (·.1)).Nodup → l[j]? = some (a, v0) → setM l a v = l.set j (a, v)
  | [], j, _, h => by simp at h
  | p :: r, 0, _, h => by
    simp at h; subst h
    unfold setM; rw [if_pos rfl]; rfl
  | p :: r, j + 1, hn, h => by
    rw [List.map_cons, List.nodup_cons] at hn
    have hm : (a, v0) ∈ r := List.mem_of_getElem? (by simpa using h)
    have hne : p.1 ≠ a := fun e => hn.1 (e ▸ List.mem_map.2 ⟨_, hm, rfl⟩)
    unfold setM
    rw [if_neg hne, setM_some v hn.2 (j := j) (by simpa using h)]; rfl
theorem setM_get (l : List (α × Value)) (a : α) (v : Value) (x : α) : getM (setM l a v) x = if x = a then some v else getM l x := by
  induction l with
  | nil => simp [setM, getM, eq_comm]
  | cons p r ih =>
    unfold setM
    by_cases hp : p.1 = a
    · rw [if_pos hp]
      simp only [getM]
      by_cases hx : a = x
      · rw [if_pos hx, if_pos hx.symm]
      · rw [if_neg hx, if_neg (fun e => hx e.symm), if_neg (by rw [hp]; exact hx)]
    · rw [if_neg hp]
      simp only [getM]
      by_cases hx : p.1 = x
      · rw [if_pos hx, if_pos hx, if_neg (fun e => hp (by rw [hx, e]))]
      · rw [if_neg hx, if_neg hx]; exact ih
theorem setM_nodup {l : List (α × Value)} (h : (l.map (·.1)).Nodup) (a : α) (v : Value) : ((setM l a v).map (·.1)).Nodup := by
  have key : ∀ l : List (α × Value), (setM l a v).map (·.1) = if a ∈ l.map (·.1) then l.map (·.1) else l.map (·.1) ++ [a] := by
    intro l
    induction l with
    | nil => simp [setM]
    | cons p r ih =>
      unfold setM
      by_cases hp : p.1 = a
      · rw [if_pos hp]; simp [hp]
      · rw [if_neg hp]
        simp only [List.map_cons, ih]
        by_cases hm : a ∈ r.map (·.1)
        · rw [if_pos hm, if_pos (List.mem_cons_of_mem _ hm)]
        · rw [if_neg hm, if_neg (fun e => by rcases List.mem_cons.1 e with e | e; exact hp e.symm; exact hm e)]; rfl
  rw [key]
  split
  · exact h
  · rename_i hm
    exact List.nodup_append.2 ⟨h, by simp, by simp only [List.mem_singleton]; rintro x hx y rfl rfl; exact hm hx⟩

theorem set_obj {w : World} {g : Nat} {o o' : Obj} (hg : w.heap[g]? = some o) : (ChangeMaps.setBlock w g o').heap[g]? = some o' ∧ (ChangeMaps.setBlock w g o').heap.size = w.heap.size ∧ Foot (· = g) w (ChangeMaps.setBlock w g o') := by
  have hlt := (Array.getElem?_eq_some_iff.1 hg).1
  refine ⟨by simp [ChangeMaps.setBlock, hlt], by simp [ChangeMaps.setBlock], rfl, rfl, rfl, by simp [ChangeMaps.setBlock], fun k hk hn => ?_⟩
  show (w.heap.setIfInBounds g o')[k]? = _
  rw [Array.getElem?_setIfInBounds_ne (fun e => hn e.symm)]
end

section
variable {P : Program} {N : Nt} {Q : Exit → Act → World → Prop} {l : SF} {w : World} {ops : Array Oper} {rest : List Oper}
variable {ty : TypeId} {pos : String} {aft : Array Edge} {d : Nat} {CH : Array Obj → Prop}
variable {x y u : Operand} {t k e : TypeId} {z : Value} {gd : Option (Nat × Bool)} {dd : Option Nat}
variable {α : Type} {enc : α → Value} {g : Nat} {m : List (α × Value)} {a : α}
theorem map_check (K : KeyEnc P k enc) (w : World) (em : Bool) (a : α) : (Instr.checkKey em 10000 k (enc a)).run P w = .ok () w := by
  obtain ⟨la, hla⟩ := K.reads a
  exact K.keyed.check w em hla
theorem map_stays (K : KeyEnc P k enc) (w : World) (a : α) : (Instr.keyThatStays (enc a) (enc a)).run P w = .ok (enc a) w := by
  obtain ⟨la, hla⟩ := K.reads a
  exact K.keyed.stays w hla

/-- make(map) -/
theorem Sl.makeMap {t : TypeId} (hd : Nat.blt d N.n = true) (h : ∀ w', MapL enc w'.heap w.heap.size [] → w'.heap.size = w.heap.size + 1 → Foot nob w w' → Sl P N ops Q rest ((d, .map (some w.heap.size)) :: l) w') :
    Sl P N ops Q (⟨some d, .makeMap t none, ty, pos, aft, none⟩ :: rest) l w := by
  refine Sl.eff (w' := w.alloc (.map #[] 0)) (fun a ha => ?_) hd (h _ ⟨heap_alloc_new w _, by simp⟩ (by simp) (Foot.alloc _ _ _))
  simp [execOp, Instr.makeMap, newObj]; rfl
theorem find_born {m : List (α × Value)} {j : Nat} (hj : j < m.length) : (entE enc m).findIdx? (fun e => (e.born : Int) == (j : Int)) = some j := by
  rw [List.findIdx?_eq_some_iff_getElem]
  refine ⟨by simpa [entE] using hj, by simp [entE], fun i hi => ?_⟩
  simp [entE]; omega
theorem MapL.obj {H : Array Obj} (h : MapL enc H g m) : g < H.size := (Array.getElem?_eq_some_iff.1 h.1).1
theorem MapL.keep {S : Nat → Prop} {w w' : World} (h : MapL enc w.heap g m) (f : Foot S w w') (hs : ¬ S g) : MapL enc w'.heap g m := ⟨f.obj h.1 hs, h.2⟩
variable [DecidableEq α]
theorem run_zero {T : TypeId} (hz : (P.info? T).map (·.zero) = some (some z)) (w : World) : (zeroValue T).run P w = .ok z w := by
  obtain ⟨i, hi, h1⟩ := Option.map_eq_some_iff.1 hz
  simp [zeroValue, typeInfo, hi, h1]
theorem map_find (K : KeyEnc P k enc) (w : World) (m : List (α × Value)) (hn : (m.map (·.1)).Nodup) (a : α) :
    ((Instr.findKey k (enc a) (entE enc m)).run P w = .ok none w ∧ getM m a = none) ∨ ∃ j v, (Instr.findKey k (enc a) (entE enc m)).run P w = .ok (some (j, v)) w ∧ m[j]? = some (a, v) ∧ getM m a = some v := by
  obtain ⟨la, hla⟩ := K.reads a
  rcases K.keyed.find w hla (entE enc m) (fun e he => by obtain ⟨p, _, h, _⟩ := entE_mem he; rw [h]; exact K.reads _) with ⟨h1, h2⟩ | ⟨j, e, h1, h2, h3⟩
  · refine .inl ⟨h1, getM_none fun p hp hpa => ?_⟩
    obtain ⟨e, he, hk, _⟩ := entE_of (enc := enc) hp
    exact h2 e he (by rw [hk, hpa])
  · obtain ⟨p, hp, rfl⟩ := entE_at h2
    have hpa : p.1 = a := K.inj _ _ h3
    subst hpa
    exact .inr ⟨j, p.2, h1, hp, getM_some hn hp⟩
/-- m[a] -/
theorem Cm.lookup (ht : MapT P t k e z) (K : KeyEnc P k enc) (hx : evL l x = some (.map (some g))) (hy : evL l y = some (enc a)) (hm : ∀ H, CH H → MapL enc H g m) :
    Cm P N CH l ⟨dd, .lookup t x y false, ty, pos, aft, gd⟩ ((getM m a).getD z) := fun b w hb hw => by
  obtain ⟨h1, hn⟩ := hm _ hw
  have hg := MapKept.run_getObj_map (P := P) h1
  simp only [execOp, hb.ev hx, hb.ev hy, Instr.lookup, Sem.run_bind, run_underlying ht.und, hg, Result.andThen_ok, Sem.run_pure, map_check K]
  rcases map_find K w m hn a with ⟨h2, h3⟩ | ⟨j, v, h2, h3, h4⟩
  · simp [h2, h3, run_zero ht.zero]
  · simp [h2, h4]
/-- v, ok := m[a] -/
theorem Cm.lookupOk (ht : MapT P t k e z) (K : KeyEnc P k enc) (hx : evL l x = some (.map (some g))) (hy : evL l y = some (enc a)) (hm : ∀ H, CH H → MapL enc H g m) :
    Cm P N CH l ⟨dd, .lookup t x y true, ty, pos, aft, gd⟩ (.tuple [(getM m a).getD z, .bool (decide ((getM m a).isSome = true))].toArray) := fun b w hb hw => by
  obtain ⟨h1, hn⟩ := hm _ hw
  have hg := MapKept.run_getObj_map (P := P) h1
  simp only [execOp, hb.ev hx, hb.ev hy, Instr.lookup, Sem.run_bind, run_underlying ht.und, hg, Result.andThen_ok, Sem.run_pure, map_check K]
  rcases map_find K w m hn a with ⟨h2, h3⟩ | ⟨j, v, h2, h3, h4⟩
  · simp [h2, h3, run_zero ht.zero]
  · simp [h2, h4]
/-- m[a] = v -/
theorem Sl.mapUpdate {v : Value} (ht : MapT P t k e z) (K : KeyEnc P k enc) (hx : evL l x = some (.map (some g))) (hy : evL l y = some (enc a)) (hu : evL l u = some v) (hm : MapL enc w.heap g m)
    (h : ∀ w', MapL enc w'.heap g (setM m a v) → w'.heap.size = w.heap.size → Foot (· = g) w w' → Sl P N ops Q rest l w') :
    Sl P N ops Q (⟨none, .mapUpdate t x y u, ty, pos, aft, none⟩ :: rest) l w := by
  have hm' := hm
  obtain ⟨h1, hn⟩ := hm
  have hg := MapKept.run_getObj_map (P := P) h1
  rcases map_find K w m hn a with ⟨h2, h3⟩ | ⟨j, v0, h2, h3, h4⟩
  · obtain ⟨s1, s2, s3⟩ := set_obj (o' := .map ((entE enc m).toArray.push ⟨enc a, v, m.length⟩) (m.length + 1)) h1
    refine Sl.effSkip (w' := ChangeMaps.setBlock w g (.map ((entE enc m).toArray.push ⟨enc a, v, m.length⟩) (m.length + 1))) (fun b hb => ?_) (h _ ⟨?_, setM_nodup hn a v⟩ s2 s3)
    · simp [execOp, hb.ev hx, hb.ev hy, hb.ev hu, Instr.mapUpdate, run_underlying ht.und, hg, map_check K, h2, MapKept.run_setObj_map _ h1, Result.andThen, ChangeMaps.setBlock]
    · rw [s1, setM_none v h3, entE_snoc]; simp
  · have he : (entE enc m)[j]? = some ⟨enc a, v0, j⟩ := by
      simp [entE, List.getElem?_mapIdx, h3]
    have hmod : (entE enc m).modify j (fun e' => { e' with key := enc a, val := v }) = entE enc (setM m a v) := by
      rw [setM_some v hn h3, entE_set, ChangeMaps.modify_eq_set _ _ _ _ he]
    obtain ⟨s1, s2, s3⟩ := set_obj (o' := .map (entE enc (setM m a v)).toArray m.length) h1
    refine Sl.effSkip (w' := ChangeMaps.setBlock w g (.map (entE enc (setM m a v)).toArray m.length)) (fun b hb => ?_) (h _ ⟨?_, setM_nodup hn a v⟩ s2 s3)
    · simp [execOp, hb.ev hx, hb.ev hy, hb.ev hu, Instr.mapUpdate, run_underlying ht.und, hg, map_check K, h2, he, map_stays K, MapKept.run_setObj_map _ h1, Result.andThen, ChangeMaps.setBlock, hmod]
    · rw [s1]; congr 2; rw [setM_some v hn h3]; simp
/-- the entry of m[a], which is made if there is none -/
def entM (m : List (α × Value)) (a : α) (z : Value) : List (α × Value) := if (getM m a).isSome then m else m ++ [(a, z)]
theorem Sl.mapEntry (ht : MapT P t k e z) (K : KeyEnc P k enc) (hx : evL l x = some (.map (some g))) (hy : evL l y = some (enc a)) (hm : MapL enc w.heap g m) (hd : Nat.blt d N.n = true)
    (h : ∀ w' j, MapL enc w'.heap g (entM m a z) → (entM m a z)[j]? = some (a, (getM m a).getD z) → w'.heap.size = w.heap.size → Foot (· = g) w w' → Sl P N ops Q rest ((d, .tuple [(getM m a).getD z, .int .i64 (j : Nat)].toArray) :: l) w') :
    Sl P N ops Q (⟨some d, .mapEntry t x y, ty, pos, aft, none⟩ :: rest) l w := by
  obtain ⟨h1, hn⟩ := hm
  have hg := MapKept.run_getObj_map (P := P) h1
  rcases map_find K w m hn a with ⟨h2, h3⟩ | ⟨j, v0, h2, h3, h4⟩
  · have e1 : entM m a z = m ++ [(a, z)] := by unfold entM; rw [h3]; rfl
    have e2 : (getM m a).getD z = z := by rw [h3]; rfl
    obtain ⟨s1, s2, s3⟩ := set_obj (o' := .map ((entE enc m).toArray.push ⟨enc a, z, m.length⟩) (m.length + 1)) h1
    refine Sl.eff (w' := ChangeMaps.setBlock w g (.map ((entE enc m).toArray.push ⟨enc a, z, m.length⟩) (m.length + 1))) (fun b hb => ?_) hd (h _ m.length ⟨?_, ?_⟩ ?_ s2 s3)
    · simp [execOp, hb.ev hx, hb.ev hy, Instr.mapEntry, run_underlying ht.und, hg, map_check K, h2, MapKept.run_setObj_map _ h1, Result.andThen, ChangeMaps.setBlock, run_zero ht.zero, e2, goInt]
    · rw [s1, e1, entE_snoc]; simp
    · rw [e1, ← setM_none z h3]; exact setM_nodup hn a z
    · rw [e1, e2]; simp
  · have e1 : entM m a z = m := by unfold entM; rw [h4]; rfl
    have e2 : (getM m a).getD z = v0 := by rw [h4]; rfl
    have he : (entE enc m)[j]? = some ⟨enc a, v0, j⟩ := by
      simp [entE, List.getElem?_mapIdx, h3]
    have hmod : (entE enc m).modify j (fun e' => { e' with key := enc a }) = entE enc m := by
      rw [ChangeMaps.modify_eq_set _ _ _ _ he]
      apply List.ext_getElem?
      intro i
      rw [List.getElem?_set]
      split
      · rename_i hij; subst hij
        rw [if_pos (List.getElem?_eq_some_iff.1 he).1]; exact he.symm
      · rfl
    obtain ⟨s1, s2, s3⟩ := set_obj (o' := .map (entE enc m).toArray m.length) h1
    refine Sl.eff (w' := ChangeMaps.setBlock w g (.map (entE enc m).toArray m.length)) (fun b hb => ?_) hd (h _ j ⟨?_, ?_⟩ ?_ s2 s3)
    · simp [execOp, hb.ev hx, hb.ev hy, Instr.mapEntry, run_underlying ht.und, hg, map_check K, h2, he, map_stays K, MapKept.run_setObj_map _ h1, Result.andThen, ChangeMaps.setBlock, hmod, e2, goInt]
    · rw [s1, e1]
    · rw [e1]; exact hn
    · rw [e1, e2]; exact h3
theorem Sl.entryStore {v v0 : Value} {j : Nat} (hx : evL l x = some (.map (some g))) (hy : evL l y = some (.int .i64 (j : Nat))) (hu : evL l u = some v) (hm : MapL enc w.heap g m) (hj : m[j]? = some (a, v0))
    (h : ∀ w', MapL enc w'.heap g (setM m a v) → w'.heap.size = w.heap.size → Foot (· = g) w w' → Sl P N ops Q rest l w') :
    Sl P N ops Q (⟨none, .entryStore t x y u, ty, pos, aft, none⟩ :: rest) l w := by
  obtain ⟨h1, hn⟩ := hm
  have hg := MapKept.run_getObj_map (P := P) h1
  have hlt := (List.getElem?_eq_some_iff.1 hj).1
  have he : (entE enc m)[j]? = some ⟨enc a, v0, j⟩ := by simp [entE, List.getElem?_mapIdx, hj]
  have hmod : (entE enc m).modify j (fun e' => { e' with val := v }) = entE enc (setM m a v) := by
    rw [setM_some v hn hj, entE_set, ChangeMaps.modify_eq_set _ _ _ _ he]
  obtain ⟨s1, s2, s3⟩ := set_obj (o' := .map (entE enc (setM m a v)).toArray m.length) h1
  refine Sl.effSkip (w' := ChangeMaps.setBlock w g (.map (entE enc (setM m a v)).toArray m.length)) (fun b hb => ?_) (h _ ⟨?_, setM_nodup hn a v⟩ s2 s3)
  · simp [execOp, hb.ev hx, hb.ev hy, hb.ev hu, Instr.entryStore, hg, asInt, asIntOf, find_born hlt, MapKept.run_setObj_map _ h1, Result.andThen, ChangeMaps.setBlock, hmod]
  · rw [s1]; congr 2; rw [setM_some v hn hj]; simp
theorem entM_set (m : List (α × Value)) (a : α) (z v : Value) : setM (entM m a z) a v = setM m a v := by
  unfold entM
  split
  · rfl
  · rename_i h
    have hn : getM m a = none := by simpa using h
    rw [setM_none v hn]
    induction m with
    | nil => simp [setM]
    | cons p r ih =>
      unfold getM at hn
      split at hn
      · cases hn
      · rename_i hp
        simp only [List.cons_append, setM, if_neg hp]
        rw [ih (by simpa using hn) hn]
end
end Go.Proofs.Ytpamandneifemaa
