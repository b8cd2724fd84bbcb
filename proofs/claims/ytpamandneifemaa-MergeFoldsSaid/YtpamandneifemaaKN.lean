/- A range over a map; the values of a map, gathered. No condition beyond the bounds that each states. -/
import Derived.Maps.RangeRun
import Derived.Shelf.SlSortCmp.NoneTotal
import Derived.DeepKeys4
import Derived.Test.YtpamandneifemaaBxk
import Derived.Test.YtpamandneifemaaKM
import Derived.Test.YtpamandneifemaaSs
import Derived.Test.YtpamandneifemaaSkk
import Derived.Test.YtpamandneifemaaMtk
namespace Go.Proofs.Ytpamandneifemaa
open Go Go.RowKit Go.Maps
set_option linter.unusedVariables false

/-! a range over a map -/
structure ItM {α : Type} (enc : α → Value) (H : Array Obj) (g r : Nat) (m : List (α × Value)) (seen : List Nat) : Prop where
  map : MapL enc H g m
  it : H[r]? = some (.mapIter (some g) m.length seen.toArray m.length)
  nd : seen.Nodup
  lt : ∀ j ∈ seen, j < m.length
theorem nodup_le : ∀ (n : Nat) (l : List Nat), l.Nodup → (∀ x ∈ l, x < n) → l.length ≤ n
  | 0, [], _, _ => Nat.le_refl _
  | 0, x :: l, _, h => absurd (h x (by simp)) (Nat.not_lt_zero _)
  | n + 1, l, hn, h => by
    have h1 := nodup_le n (l.erase n) (hn.erase n) (fun x hx => by
      have h2 := (List.Nodup.mem_erase_iff hn).1 hx
      have := h x h2.2
      have := h2.1
      omega)
    have := List.length_erase (a := n) (l := l)
    split at this
    · omega
    · omega
section
variable {P : Program} {N : Nt} {Q : Exit → Act → World → Prop} {l : SF} {w : World} {ops : Array Oper} {rest : List Oper}
variable {ty : TypeId} {pos : String} {aft : Array Edge} {d : Nat} {x : Operand} {t k e : TypeId} {α : Type} {enc : α → Value} {g r : Nat} {m : List (α × Value)} {seen : List Nat}
theorem ItM.keep {w w' : World} (h : ItM enc w.heap g r m seen) (hg : w'.heap[g]? = w.heap[g]?) (hr : w'.heap[r]? = w.heap[r]?) : ItM enc w'.heap g r m seen := ⟨⟨hg.trans h.map.1, h.map.2⟩, hr.trans h.it, h.nd, h.lt⟩
theorem Sl.rangeM (ht : P.underlying t = some (.map k e)) (hx : evL l x = some (.map (some g))) (hm : MapL enc w.heap g m) (hd : Nat.blt d N.n = true)
    (h : ∀ w', ItM enc w'.heap g w.heap.size m [] → w'.heap.size = w.heap.size + 1 → Foot nob w w' → Sl P N ops Q rest ((d, .pointer (some ⟨w.heap.size, 0, none⟩)) :: l) w') :
    Sl P N ops Q (⟨some d, .range t x, ty, pos, aft, none⟩ :: rest) l w := by
  have hf := Foot.alloc nob w (.mapIter (some g) m.length #[] m.length)
  refine Sl.eff (w' := w.alloc (.mapIter (some g) m.length #[] m.length)) (fun a ha => ?_) hd (h _ ⟨hm.keep hf id, heap_alloc_new w _, List.nodup_nil, by simp⟩ (by simp) hf)
  simp [execOp, ha.ev hx, run_range_map w t k e g _ _ ht hm.1]
theorem entE_born (m : List (α × Value)) : (entE enc m).map (·.born) = List.range m.length := by
  apply List.ext_getElem?
  intro i
  by_cases hi : i < m.length
  · simp [entE, hi]
  · simp [entE, hi]
theorem entE_bn {m : List (α × Value)} {x : MapEntry} (h : x ∈ entE enc m) : x.born < m.length ∧ ∃ p, m[x.born]? = some p ∧ x.key = enc p.1 ∧ x.val = p.2 := by
  obtain ⟨j, hj⟩ := List.getElem?_of_mem h
  obtain ⟨p, hp, rfl⟩ := entE_at hj
  exact ⟨(List.getElem?_eq_some_iff.1 hp).1, p, hp, rfl, rfl⟩
theorem Sl.nextM (hx : evL l x = some (.pointer (some ⟨r, 0, none⟩))) (hi : ItM enc w.heap g r m seen) (hd : Nat.blt d N.n = true)
    (h1 : (∀ j, j < m.length → j ∈ seen) → Sl P N ops Q rest ((d, .tuple [Value.bool false].toArray) :: l) w)
    (h2 : ∀ (j : Nat) (p : α × Value) (w' : World), j < m.length → j ∉ seen → m[j]? = some p → ItM enc w'.heap g r m (seen ++ [j]) → w'.heap.size = w.heap.size → Foot (· = r) w w' → (Instr.entry (.pointer (some ⟨r, 0, none⟩))).run P w' = .ok (.tuple [enc p.1, p.2].toArray) w' →
      Sl P N ops Q rest ((d, .tuple [Value.bool true, enc p.1, p.2].toArray) :: l) w') :
    Sl P N ops Q (⟨some d, .next x false, ty, pos, aft, none⟩ :: rest) l w := by
  have hold : ∀ x ∈ (entE enc m).toArray.toList, x.born < m.length := fun x hx => (entE_bn (by simpa using hx)).1
  rcases run_next_at (P := P) w ty r g m.length m.length seen.toArray (entE enc m).toArray m.length hi.it hi.map.1 hold (Nat.le_refl _) with ⟨h0, hrun⟩ | ⟨e, he, w1, hal, hrun⟩
  · refine Sl.eff (w' := w) (fun a ha => ?_) hd (h1 fun j hj => ?_)
    · simp only [execOp, ha.ev hx, Sem.run_bind, hrun]; rfl
    · have : ∃ x ∈ entE enc m, x.born = j := by
        have : j ∈ (entE enc m).map (·.born) := by rw [entE_born]; exact List.mem_range.2 hj
        obtain ⟨x, hx, e⟩ := List.mem_map.1 this; exact ⟨x, hx, e⟩
      obtain ⟨x, hx, rfl⟩ := this
      have := all_seen (entE enc m).toArray seen.toArray h0 x (by simpa using hx)
      simpa using this
  · obtain ⟨hem, hes⟩ := mem_left he
    have hem' : e ∈ entE enc m := by simpa using hem
    obtain ⟨hb, p, hp, hk, hv⟩ := entE_bn hem'
    have hns : e.born ∉ seen := by simpa using hes
    have hr1 : w1.heap[r]? = some (.mapIter (some g) m.length seen.toArray m.length) := by rcases hal with rfl | rfl <;> exact hi.it
    obtain ⟨s1, s2, s3⟩ := set_obj (o' := .mapIter (some g) m.length (seen.toArray.push e.born) m.length) hr1
    have hf : Foot (· = r) w (ChangeMaps.setBlock w1 r (.mapIter (some g) m.length (seen.toArray.push e.born) m.length)) := by
      rcases hal with rfl | rfl
      · exact s3
      · exact ⟨s3.os, s3.tape, s3.output, s3.size, s3.same⟩
    have hrg : ¬ g = r := fun h => by subst h; have := hi.map.1; rw [hi.it] at this; cases this
    have hmp := hi.map.keep hf hrg
    have hit : ItM enc (ChangeMaps.setBlock w1 r (.mapIter (some g) m.length (seen.toArray.push e.born) m.length)).heap g r m (seen ++ [e.born]) := ⟨hmp, by rw [s1]; simp,
      List.nodup_append.2 ⟨hi.nd, by simp, by simp only [List.mem_singleton]; rintro a ha b rfl rfl; exact hns ha⟩, fun j hj => by
        rcases List.mem_append.1 hj with h | h
        · exact hi.lt j h
        · rw [List.mem_singleton] at h; subst h; exact hb⟩
    have hen := run_entry_at (P := P) _ r g m.length seen.toArray (entE enc m).toArray m.length e s1 hmp.1 hem (by
      have := entE_born (enc := enc) m
      simp only at this ⊢
      rw [this]; exact List.nodup_range)
    rw [hk, hv] at hen hrun
    refine Sl.eff (w' := ChangeMaps.setBlock w1 r (.mapIter (some g) m.length (seen.toArray.push e.born) m.length)) (fun a ha => ?_) hd (h2 e.born p _ hb hns hp hit (by rcases hal with rfl | rfl <;> exact s2) hf hen)
    simp only [execOp, ha.ev hx, Sem.run_bind, hrun]; rfl
theorem Cm.entryM {dd : Option Nat} {gd : Option (Nat × Bool)} {w0 : World} {v : Value} (hx : evL l x = some (.pointer (some ⟨r, 0, none⟩))) (h : ∀ w : World, w.heap = w0.heap → (Instr.entry (.pointer (some ⟨r, 0, none⟩))).run P w = .ok v w) :
    Cm P N (· = w0.heap) l ⟨dd, .entry x, ty, pos, aft, gd⟩ v := fun a w ha hw => by
  simp only [execOp, ha.ev hx, Sem.run_bind, h w hw]; rfl
theorem ItM.entry {w : World} {j : Nat} {p : α × Value} (h : ItM enc w.heap g r m (seen ++ [j])) (hp : m[j]? = some p) : ∀ w2 : World, w2.heap = w.heap → (Instr.entry (.pointer (some ⟨r, 0, none⟩))).run P w2 = .ok (.tuple [enc p.1, p.2].toArray) w2 := fun w2 e2 => by
  have hj : (entE enc m)[j]? = some ⟨enc p.1, p.2, j⟩ := by simp [entE, List.getElem?_mapIdx, hp]
  have hi : w2.heap[r]? = some (.mapIter (some g) m.length (seen.toArray.push j) m.length) := by rw [e2, h.it]; simp
  have hm : w2.heap[g]? = some (.map (entE enc m).toArray m.length) := by rw [e2]; exact h.map.1
  exact run_entry_at (P := P) w2 r g m.length seen.toArray (entE enc m).toArray m.length ⟨enc p.1, p.2, j⟩ hi hm (by simpa using List.mem_of_getElem? hj) (by
    have := entE_born (enc := enc) m
    simp only at this ⊢
    rw [this]; exact List.nodup_range)
end

/-! the values of a map -/
structure KpM (gb : Nat) (W W' : World) : Prop where
  box : W'.heap[gb]? = W.heap[gb]?
  walk : ∀ (k : Nat) (o : Obj), W.heap[k]? = some o → o.isWalk = true → W'.heap[k]? = some o
theorem KpM.trans {gb : Nat} {A B C : World} (h : KpM gb A B) (k : KpM gb B C) : KpM gb A C := ⟨k.box.trans h.box, fun i o hi ho => k.walk i o (h.walk i o hi ho) ho⟩
def mvE (m : List (SK × Value)) (i : Fin m.length) : Value := (m[i.1]).2
set_option maxHeartbeats 2000000 in
theorem values_it (gb g : Nat) (m : List (SK × Value)) (w0 : World) (hb : w0.heap[gb]? = some (.cells [Value.map (some g)].toArray 56 (0, 0))) (hm : MapL enS w0.heap g m) :
    SeqStopsK Fence.wide 3 Try.prog 50 [Value.pointer (some ⟨gb, 0, none⟩)].toArray (fun i : Fin m.length => #[mvE m i]) (KpM gb) (fun xs => (xs.map (·.1)).Perm (List.range m.length)) (fun _ => True) m.length w0 := by
  intro l J Jx W hW hJ hJx hY h0
  refine callsIn_wide.2 ?_
  have hb1 : W.heap[gb]? = some (.cells [Value.map (some g)].toArray 56 (0, 0)) := (hW.block gb (Array.getElem?_eq_some_iff.1 hb).1).trans hb
  have hm1 : MapL enS W.heap g m := ⟨(hW.block g hm.obj).trans hm.1, hm.2⟩
  have ea : (#[Value.func (.yield l) #[] #[]] ++ [Value.pointer (some ⟨gb, 0, none⟩)].toArray) = [.func (.yield l) #[] #[], .pointer (some ⟨gb, 0, none⟩)].toArray := by simp
  rw [ea]
  refine calls_of_sc 15 [(0, _), (1, _)] Try.func50 rfl rfl rfl (enter_slots ⟨rfl, rfl, trivial⟩) ?_
  refine Sc.seq ?_
  refine Sc.region ?_
  refine Sl.calm (Cm.ofEq (u := .map (some g)) (Cm.ld sca56 rfl (cellF0 hb1 rfl)) rfl) rfl ?_
  refine Sl.rangeM (enc := enS) (by kernel_rfl : Try.prog.underlying 56 = some (.map 9 29)) rfl hm1 rfl ?_
  intro w1 hi1 hs1 hf1
  obtain ⟨r, er⟩ : ∃ r, r = W.heap.size := ⟨_, rfl⟩
  rw [← er] at hi1 ⊢
  have hJ1 : J [] w1 := hJ _ _ _ none h0 ⟨hf1.os, hf1.tape, hf1.output, hf1.size, fun k hk _ => hf1.same k hk id⟩ (fun r e => by cases e)
  refine Sl.nil ?_
  refine At.weak [(0, _), (1, _), (6, _)] ⟨rfl, rfl, rfl, trivial⟩ ?_
  refine At.go ?_
  refine Sc.block ?_
  refine Sc.loop (β := List (Fin m.length)) (fun xs => [(0, .func (.yield l) #[] #[]), (1, .pointer (some ⟨gb, 0, none⟩)), (6, .pointer (some ⟨r, 0, none⟩))]) (fun xs w => J xs w ∧ ItM enS w.heap g r m (xs.map (·.1)) ∧ w.heap[gb]? = some (.cells [Value.map (some g)].toArray 56 (0, 0))) (fun xs => m.length - xs.length) [] ⟨rfl, rfl, rfl, trivial⟩ ⟨hJ1, hi1, hf1.obj hb1 id⟩ ?_
  rintro xs w2 ⟨hJw, hi2, hb2⟩
  refine Sc.seq ?_
  refine Sc.region ?_
  refine Sl.nextM rfl (hi2) rfl ?_ ?_
  ·
    intro hall
    refine Sl.calm (Cm.extract rfl rfl) rfl ?_
    refine Sl.nil ?_
    refine At.weak [(0, _), (1, _), (6, _), (8, _)] ⟨rfl, rfl, rfl, rfl, trivial⟩ ?_
    refine At.go ?_
    refine Sc.seq ?_
    refine Sc.cond_f rfl ?_
    refine Sc.exit ?_
    refine At.then_exit ?_
    refine At.then_exit ?_
    refine At.block_hit ?_
    refine At.end0 rfl ?_
    refine ⟨⟨_, rfl⟩, .inl ⟨xs, ?_, hJw⟩⟩
    show (xs.map (·.1)).Perm _
    rw [List.perm_ext_iff_of_nodup hi2.nd List.nodup_range]
    exact fun j => ⟨fun h => List.mem_range.2 (hi2.lt j h), fun h => hall j (List.mem_range.1 h)⟩
  ·
    intro j p w3 hjl hjn hp hi3 hs3 hf3 hen
    have hb3 := hf3.obj hb2 (fun e => by have e : gb = r := e; rw [e] at hb2; have := hi2.it; rw [hb2] at this; cases this)
    have hJ3 : J xs w3 := hJ _ _ _ (some r) hJw ⟨hf3.os, hf3.tape, hf3.output, hf3.size, fun k hk hne => hf3.same k hk (fun e => hne (by rw [show k = r from e]))⟩ (fun q e => by cases e; exact ⟨by omega, _, hi2.it, rfl⟩)
    have hxl : xs.length < m.length := by have := nodup_le m.length _ hi3.nd hi3.lt; simp at this; omega
    obtain ⟨x, ex⟩ : ∃ x : Fin m.length, x = ⟨j, hjl⟩ := ⟨_, rfl⟩
    have hpe : p.2 = mvE m x := by rw [ex]; unfold mvE; have := (List.getElem?_eq_some_iff.1 hp).2; rw [← this]
    rw [hpe]
    refine Sl.calm (Cm.extract rfl rfl) rfl ?_
    refine Sl.nil ?_
    refine At.weak [(0, _), (1, _), (6, _), (8, _)] ⟨rfl, rfl, rfl, rfl, trivial⟩ ?_
    refine At.go ?_
    refine Sc.seq ?_
    refine Sc.cond_t rfl ?_
    refine Sc.skip ?_
    refine At.go ?_
    refine Sc.block ?_
    refine Sc.seq ?_
    refine Sc.region ?_
    refine Sl.calm (Cm.entryM rfl (by have := hi3.entry (P := Try.prog) hp; rw [hpe] at this; exact this)) rfl ?_
    refine Sl.calm (Cm.extract rfl rfl) rfl ?_
    refine Sl.calm (Cm.assign rfl) rfl ?_
    refine Sl.nil ?_
    refine At.weak [(0, _), (1, _), (4, _), (6, _), (8, _)] ⟨rfl, rfl, rfl, rfl, rfl, trivial⟩ ?_
    refine At.go ?_
    refine Sc.seq ?_
    refine Sc.regionI 3 ?_
    refine Si.calm (Cm.move rfl) rfl ?_
    refine Si.calm (Cm.move rfl) rfl ?_
    refine Si.yield rfl rfl (hY xs x w3 hJ3 hxl) rfl ?_ ?_
    ·
      rintro W' ⟨hJ', hK'⟩
      refine Si.calm (Cm.not rfl) rfl ?_
      refine Si.nil ?_
      refine At.weak [(0, _), (1, _), (4, _), (6, _), (8, _), (14, _)] ⟨rfl, rfl, rfl, rfl, rfl, rfl, trivial⟩ ?_
      refine At.go ?_
      refine Sc.cond_f rfl ?_
      refine Sc.skip ?_
      refine At.block_normal ?_
      refine At.again (xs ++ [x]) ⟨rfl, rfl, rfl, trivial⟩ ⟨hJ', ?_, hK'.box.trans hb3⟩ (by show m.length - (xs ++ [x]).length < m.length - xs.length; simp; omega)
      have hi4 := hi3.keep (w' := W') ((hK'.walk _ _ hi3.map.1 rfl).trans hi3.map.1.symm) ((hK'.walk _ _ hi3.it rfl).trans hi3.it.symm)
      rw [List.map_append]; rw [ex]; exact hi4
    ·
      rintro W' hJ'
      refine Si.calm (Cm.not rfl) rfl ?_
      refine Si.nil ?_
      refine At.weak [(0, _), (1, _), (4, _), (6, _), (8, _), (14, _)] ⟨rfl, rfl, rfl, rfl, rfl, rfl, trivial⟩ ?_
      refine At.go ?_
      refine Sc.cond_t rfl ?_
      refine Sc.ret ?_
      refine At.block_ret ?_
      refine At.then_ret ?_
      refine At.block_ret ?_
      refine At.ret0 rfl ?_
      exact ⟨⟨_, rfl⟩, .inr ⟨_, trivial, hJ'⟩⟩
theorem values_ok (g : Nat) (W : World) : Calls Try.prog 34 [.map (some g)].toArray W
    (Ret fun v w' => v = .func (.func 50) #[] [Value.pointer (some ⟨W.heap.size, 0, none⟩)].toArray ∧ w'.heap[W.heap.size]? = some (.cells [Value.map (some g)].toArray 56 (0, 0)) ∧ w'.heap.size = W.heap.size + 1 ∧ Foot nob W w') := by
  refine calls_of_sc 4 [(0, _)] Try.func34 rfl rfl rfl (enter_slots ⟨rfl, trivial⟩) ?_
  refine Sc.seq ?_
  refine Sc.region ?_
  refine Sl.box rfl rfl ?_
  intro w1 hg1 hs1 hf1
  refine Sl.calm (Cm.assign rfl) rfl ?_
  refine Sl.nil ?_
  refine At.go ?_
  refine Sc.seq ?_
  refine Sc.region ?_
  refine Sl.calm (Cm.makeFunc (vs := [.pointer (some ⟨W.heap.size, 0, none⟩)]) rfl) rfl ?_
  refine Sl.calm (Cm.assign rfl) rfl ?_
  refine Sl.nil ?_
  refine At.weak [(0, _), (1, _), (2, _)] ⟨rfl, rfl, rfl, trivial⟩ ?_
  refine At.go ?_
  refine Sc.ret ?_
  refine At.ret1 rfl rfl ?_
  exact ⟨_, rfl, rfl, hg1, hs1, hf1⟩
/-! gathered -/
def BhI {α : Type} (e T : TypeId) (bx : Nat) (w0 : World) (f : α → Hd) (pre : List α) (w : World) : Prop :=
  ∃ oo oc, w.heap[bx]? = some (.cells [Value.slice oo (pre.map f).length oc].toArray T (0, 0)) ∧ Own hd e w.heap oo oc (pre.map f) ∧ Fr w0.heap.size oo ∧ Foot (· = bx) w0 w
theorem BhI.own {α : Type} {e T : TypeId} {bx : Nat} {w0 : World} {f : α → Hd} : OwnFrom w0.heap.size (BhI (α := α) e T bx w0 f) := fun pre W W' row ⟨oo, oc, h1, h2, h3, h4⟩ hg hr => by
  have g := grown_foot hg
  refine ⟨oo, oc, g.obj h1 (fun e => ?_), h2.keep g (fun a ha e => ?_), h3, h4.trans_to g (fun k e => .inr (hr k e.symm).1)⟩
  · obtain ⟨_, o, ho, hc⟩ := hr bx e.symm
    rw [h1] at ho; cases ho; cases hc
  · obtain ⟨_, o, ho, hc⟩ := hr a.block e.symm
    obtain ⟨cur, hcur⟩ := h2.cells ha
    rw [hcur] at ho; cases ho; cases hc
section
variable {P : Program} {N D : Nat} {fn : Func} {R : Ending → World → Prop} {l : SF} {w : World}
theorem At.ret1D {t : Nat} {v : Value} (hr : fn.results = #[.tmp t]) (hv : lk l t = some v) (hD : w.heap[D]? = some (.deferred (some [])))
    (h : ∀ w', w' = w.putObj D (.deferred none) → Foot (· = D) w w' → R (.returned v) w') : At (Nt.col ⟨N, []⟩ D) .ret (bodyPostM Fence.wide 4 P fn R) l w := fun a ha => by
  show LeavesInM _ _ _ _ _ _ a.defers _ _
  rw [ha.dfr]
  exact leaves_mark hD (by rw [results_tmp hr]) (by simpa [ha.has t v hv] using h _ rfl (foot_mark hD))
end
set_option maxHeartbeats 2000000 in
theorem appSeq_ok (gb g : Nat) (m : List (SK × Value)) (f : Fin m.length → Hd) (W : World) (hb : W.heap[gb]? = some (.cells [Value.map (some g)].toArray 56 (0, 0))) (hm : MapL enS W.heap g m) (hf : ∀ i, mvE m i = hd (f i)) (hl : m.length ≤ 100000) :
    Calls Try.prog 63 [.slice none 0 0, .func (.func 50) #[] [Value.pointer (some ⟨gb, 0, none⟩)].toArray].toArray W
      (Ret fun v w' => ∃ o c xs, v = .slice o (List.length (α := Fin m.length) xs) c ∧ (xs.map (·.1)).Perm (List.range m.length) ∧ Own hd 29 w'.heap o c (xs.map f) ∧ Fr W.heap.size o ∧ Foot nob W w') := by
  refine calls_of_scM 13 [(0, _), (1, _)] Try.func63 rfl rfl rfl (enter_slots ⟨rfl, rfl, trivial⟩) ?_
  refine Sc.seq ?_
  refine Sc.region ?_
  refine Sl.box rfl rfl ?_
  intro w4 hg4 hs4 hf4
  obtain ⟨bx, ebx⟩ : ∃ b, b = W.heap.size := ⟨_, rfl⟩
  rw [← ebx] at hg4 ⊢
  replace hg4 : w4.heap[bx]? = some (.cells [Value.slice none 0 0].toArray 43 (0, 0)) := hg4
  have hb4 := hf4.obj hb id
  have hm4 := hm.keep hf4 id
  refine Sl.calm (Cm.assign rfl) rfl ?_
  refine Sl.nil ?_
  refine At.go ?_
  refine Sc.seq ?_
  refine Sc.seq ?_
  refine Sc.region ?_
  refine Sl.calm (Cm.move rfl) rfl ?_
  refine Sl.nil ?_
  refine At.go ?_
  refine Sc.block ?_
  refine Sc.range (α := Fin m.length) (f := 6) (p := 7) (q := 5) (gf := 50) (lb := [Value.pointer (some ⟨gb, 0, none⟩)].toArray) (enc := mvE m) (M := m.length) rfl fn50 (values_it gb g m w4 hb4 hm4) KpM.trans (fun W1 l1 o1 o2 hl1 ho1 hc1 hw1 => ⟨World.putObj_heap_other (by have := (Array.getElem?_eq_some_iff.1 hb4).1; omega), fun k q hk hq => (World.putObj_heap_other (fun e => by subst e; rw [ho1] at hk; cases hk; rw [hw1] at hq; cases hq)).trans hk⟩) (Below.refl _ _) rfl rfl (BhI 29 43 bx w4 f) BhI.own ⟨none, 0, hg4, Own.nil, Fr.none, Foot.refl _ _⟩ ?_ ?_
  ·
    rintro lp pre x w ⟨oo, oc, hbw, hoo, hfro, hFw⟩ hlt
    have hfx := hf x
    rw [hfx]
    refine Rc.block ?_
    refine Rc.region (by repeat first | exact NoOut.post | with_reducible apply NoOut.then | with_reducible apply NoOut.block) rfl ?_
    refine Sl.calm (Cm.ld sca43 rfl (cellF0 hbw rfl)) rfl ?_
    refine Sl.calm (Cm.move rfl) rfl ?_
    refine Sl.lit1 (enc := hd) (u := f x) sl43 (hd_one _) rfl rfl ?_
    intro v1 ho1 hs1 hvf1
    have hbw1 := hvf1.obj hbw id
    refine Sl.append hd_one sl43 rfl rfl (hoo.grow hvf1) ho1.vw (by simp only [List.length_singleton, List.length_map]; omega) (by simp only [List.length_singleton, List.length_map]; unfold maxLen; omega) rfl ?_
    intro o7 c7 v2 ho7 hvf2 hr7 hn7
    have hbw3 := hvf2.obj hbw1 (fun ⟨a, ha, e⟩ => by have := hfro a ha; omega)
    refine Sl.store sca43 rfl rfl rfl hbw3 rfl ?_
    intro v3 hg3b hs3b hvf3
    have hFv : Foot (fun k => k = bx ∨ blk oo k) w v3 := (hvf1.mono (fun _ h => h.elim)).trans_to ((hvf2.mono (S' := fun k => k = bx ∨ blk oo k) (fun k hk => .inr hk)).trans (hvf3.mono (fun k hk => .inl hk))) (fun k hk => .inl hk)
    have ho73 := ho7.keep hvf3 (fun a ha e => by have e : a.block = bx := e; rcases hr7 a ha with h | h; have := hfro a h; omega; have := hvf1.size; have := hFw.size; omega)
    refine Sl.nil ?_
    refine At.block_normal ?_
    have hbl := (Array.getElem?_eq_some_iff.1 hb4).1
    refine At.roundEnd ⟨keeps_of hFv (fun k hk _ => ?_), ⟨hFv.same _ (by have := hFw.size; omega) ?_, fun k o hk ho => ?_⟩, ⟨o7, c7, ?_, ?_, fr_app hfro hr7 (by have := hFw.size; have := hvf1.size; omega), (hFw.trans_to hFv (fun k hk => hk.imp id (fun ⟨a, ha, e⟩ => by have := hfro a ha; omega)))⟩⟩
    · rcases hk with rfl | ⟨a, ha, rfl⟩
      · exact ⟨_, _, _, hbw⟩
      · obtain ⟨cur, h⟩ := hoo.cells ha; exact ⟨_, _, _, h⟩
    · rintro (h | ⟨a, ha, e⟩)
      · have := (Array.getElem?_eq_some_iff.1 hb).1; omega
      · have := hfro a ha; omega
    · refine hFv.obj hk ?_
      rintro (h | ⟨a, ha, e⟩)
      · subst h; rw [hbw] at hk; cases hk; cases ho
      · obtain ⟨cur, h⟩ := hoo.cells ha; rw [e] at h; rw [h] at hk; cases hk; cases ho
    · rw [List.map_append]; exact hg3b
    · rw [List.map_append]; exact ho73
  ·
    intro Dm xs w5 hDm hS ⟨oo, oc, hb5, ho5, hfro, hF5⟩ hK
    have hFW5 : Foot nob W w5 := hf4.trans_to hF5 (fun k e => .inr (by have e : k = bx := e; omega))
    refine At.block_normal ?_
    refine At.go ?_
    refine Sc.seq ?_
    refine Sc.region ?_
    refine Sl.calm (Cm.ld sca43 rfl (cellF0 hb5 rfl)) rfl ?_
    refine Sl.calm (Cm.assign rfl) rfl ?_
    refine Sl.nil ?_
    refine At.weak [(0, _), (1, _), (2, _), (4, _), (6, _)] ⟨rfl, rfl, rfl, rfl, rfl, trivial⟩ ?_
    refine At.go ?_
    refine Sc.ret ?_
    refine At.ret1D rfl rfl hK ?_
    intro wf _ hfD
    exact ⟨_, rfl, oo, oc, xs, by rw [List.length_map], hS, ho5.keep hfD (fun a ha e => by obtain ⟨cur, h⟩ := ho5.cells ha; have e : a.block = Dm := e; rw [e, hK] at h; cases h), hfro.mono (by have := hf4.size; omega), hFW5.trans_to hfD (fun k e => .inr (by have e : k = Dm := e; have := hf4.size; omega))⟩
theorem collect_ok (gb g : Nat) (m : List (SK × Value)) (f : Fin m.length → Hd) (W : World) (hb : W.heap[gb]? = some (.cells [Value.map (some g)].toArray 56 (0, 0))) (hm : MapL enS W.heap g m) (hf : ∀ i, mvE m i = hd (f i)) (hl : m.length ≤ 100000) :
    Calls Try.prog 48 [.func (.func 50) #[] [Value.pointer (some ⟨gb, 0, none⟩)].toArray].toArray W
      (Ret fun v w' => ∃ o c xs, v = .slice o (List.length (α := Fin m.length) xs) c ∧ (xs.map (·.1)).Perm (List.range m.length) ∧ Own hd 29 w'.heap o c (xs.map f) ∧ Fr W.heap.size o ∧ Foot nob W w') := by
  refine calls_of_sc 5 [(0, _)] Try.func48 rfl rfl rfl (enter_slots ⟨rfl, trivial⟩) ?_
  refine Sc.seq ?_
  refine Sc.region ?_
  refine Sl.calm (Cm.assign rfl) rfl ?_
  refine Sl.nil ?_
  refine At.go ?_
  refine Sc.seq ?_
  refine Sc.region ?_
  refine Sl.calm (Cm.move rfl) rfl ?_
  refine Sl.call fn63 rfl (appSeq_ok gb g m f W hb hm hf hl) rfl ?_
  rintro _ w1 ⟨o, c, xs, rfl, hx, ho, hfo, hf1⟩
  refine Sl.calm (Cm.assign rfl) rfl ?_
  refine Sl.nil ?_
  refine At.weak [(0, _), (2, _)] ⟨rfl, rfl, trivial⟩ ?_
  refine At.go ?_
  refine Sc.ret ?_
  refine At.ret1 rfl rfl ?_
  exact ⟨_, rfl, o, c, xs, rfl, hx, ho, hfo, hf1⟩
end Go.Proofs.Ytpamandneifemaa
/- Rows of names, sorted. No condition beyond the bounds that each states. -/
namespace Go.Proofs.Ytpamandneifemaa
open Go Go.RowKit Go.Maps Go.Sort
set_option linter.unusedVariables false

theorem sortW1_foot {α : Type} [Inhabited α] (enc : α → Value) (W : World) (b m : Nat) (dk : Array α) (os : Array Obj) : Foot (· = b) W (sortWorld enc W b 0 m dk os) := by
  unfold sortWorld putRow mapBlock grow Go.Sort.ahead
  refine ⟨rfl, rfl, rfl, by simp, fun k hk hne => ?_⟩
  show (W.heap.modify b _ ++ os)[k]? = _
  rw [Array.getElem?_append_left (by simpa using hk), Array.getElem?_modify, if_neg (fun e => hne e.symm)]
theorem get_map {α : Type} [Inhabited α] {enc : α → Value} {d : Array α} {j : Nat} (hj : j < d.size) : (d.toList.map enc)[j]? = some (enc d[j]!) := by
  rw [List.getElem?_map, Array.getElem?_toList, getElem!_pos d j hj, Array.getElem?_eq_getElem hj]; rfl
theorem own_holds1 {α : Type} [Inhabited α] {enc : α → Value} {W : World} {b : Nat} {cur : Array Value} {T : TypeId} {d : Array α} (hg : W.heap[b]? = some (.cells cur T (0, 0))) (hc : cur.toList.take d.size = d.toList.map enc) : Holds enc W b 0 d := by
  intro j hj
  have h1 := get_map (enc := enc) hj
  rw [← hc, List.getElem?_take, if_pos hj, Array.getElem?_toList] at h1
  refine ⟨?_, ?_⟩
  · show World.cell? W ⟨b, 0 + j, none⟩ = some (enc d[j]!)
    rw [Nat.zero_add, ← h1]
    simp [World.cell?, hg]
  · simp [World.frozen?, hg]
theorem holds_own1 {α : Type} [Inhabited α] {enc : α → Value} {W : World} {b cap m : Nat} {cur : Array Value} {T : TypeId} {d : Array α} {os : Array Obj} (hg : W.heap[b]? = some (.cells cur T (0, 0))) (hl : d.size ≤ cap) (hs : cur.size = cap) :
    ∃ cur' : Array Value, (sortWorld enc W b 0 m d os).heap[b]? = some (.cells cur' T (0, 0)) ∧ cur'.size = cap ∧ cur'.toList.take d.size = d.toList.map enc := by
  have hb := (Array.getElem?_eq_some_iff.1 hg).1
  refine ⟨putCells enc 0 d cur, ?_, by simp [putCells, hs], ?_⟩
  · unfold sortWorld putRow mapBlock grow Go.Sort.ahead
    show (W.heap.modify b _ ++ os)[b]? = _
    rw [Array.getElem?_append_left (by simpa using hb), Array.getElem?_modify, if_pos rfl, hg]
    rfl
  · apply List.ext_getElem?
    intro t
    by_cases ht : t < d.size
    · rw [List.getElem?_take, if_pos ht, Array.getElem?_toList, get_map ht]
      unfold putCells
      rw [Array.getElem?_mapIdx, Array.getElem?_eq_getElem (show t < cur.size by omega), Option.map_some, if_pos ⟨Nat.zero_le _, by omega⟩]
      rfl
    · rw [List.getElem?_take, if_neg ht, List.getElem?_eq_none (by rw [List.length_map, Array.length_toList]; omega)]
abbrev Nh := Hd × List (List UInt8)
def NhB (W : World) (b : Nat) (p : Nh) : Prop := NmV (fun k => k ≠ b ∧ k < W.heap.size) W.heap p.1 p.2
abbrev NhS (W : World) (b : Nat) := { p : Nh // NhB W b p }
instance (W : World) (b : Nat) : Inhabited (NhS W b) := ⟨⟨(hd0, []), ⟨rfl, Vw.nil 0 (Nat.zero_le _), fun h => absurd rfl h⟩⟩⟩
def encH {W : World} {b : Nat} (x : NhS W b) : Value := hd x.1.1
def cfH {W : World} {b : Nat} (x y : NhS W b) : Int := cmpL x.1.2 y.1.2
theorem swoH {W : World} {b : Nat} : SWO (Go.Proofs.ltOf (cfH (W := W) (b := b))) where
  irrefl x := lessN_irr _
  trans x y z h1 h2 := lessN_trans (a := x.1.2) (b := y.1.2) (c := z.1.2) h1 h2
  ntrans x y z h1 h2 := lessN_nt (a := x.1.2) (b := y.1.2) (c := z.1.2) h1 h2
def ordH (p q : Nh) : Prop := lessN q.2 p.2 = false
theorem sortH_ok (o : Option Addr) (cap : Nat) (xs : List Nh) (W : World) (ho : Own hd 29 W.heap o cap (xs.map (·.1))) (hn : ∀ p ∈ xs, ∀ b, blk o b → NhB W b p) (hl : xs.length ≤ 100000) :
    Calls Try.prog 49 [.slice o xs.length cap, .func (.func 35) #[] #[]].toArray W (Ret fun v w' => v = .tuple #[] ∧ ∃ ys : List Nh, Own hd 29 w'.heap o cap (ys.map (·.1)) ∧ ys.Perm xs ∧ ys.Pairwise ordH ∧ Foot (blk o) W w') := by
  rcases ho with ⟨rfl, rfl, h⟩ | ⟨b, cur, rfl, hg, g1, g2, g3, g4⟩
  · have hx : xs = [] := by simpa using h
    subst hx
    refine Calls.mono (AnyF.slices_SortFunc_none { Try.sortS with } none 0 (.func (.func 35) #[] #[]) W) ?_
    rintro e w' ⟨rfl, rfl⟩
    exact ⟨_, rfl, rfl, [], .inl ⟨rfl, rfl, rfl⟩, List.Perm.refl _, List.Pairwise.nil, Foot.refl _ _⟩
  · rw [List.length_map] at g1 g4
    obtain ⟨d, hd'⟩ : ∃ d : Array (NhS W b), d = (xs.attach.map fun x => (⟨x.1, hn x.1 x.2 b ⟨_, rfl, rfl⟩⟩ : NhS W b)).toArray := ⟨_, rfl⟩
    have hdl : d.toList.map (·.1) = xs := by rw [hd']; simp only [List.map_map]; exact List.attach_map_subtype_val xs
    have hds : d.size = xs.length := by rw [← hdl]; simp
    have hfl : ∀ e : Array (NhS W b), e.toList.map encH = (e.toList.map (·.1)).map (fun p => hd p.1) := fun e => by rw [List.map_map]; rfl
    have hH : Holds encH W b 0 d := own_holds1 (enc := encH) hg (by rw [hds, hfl, hdl]; simpa [Function.comp_def] using g4)
    have hcmp : CmpLays1 Try.prog 35 #[] encH cfH b 0 d.size W := fun m os dk _ x y => by
      have hf := sortW1_foot encH W b m dk os
      have h1 := x.2.keep hf (fun k hk e => hk.1 e)
      have h2 := y.2.keep hf (fun k hk e => hk.1 e)
      have hc := compare_ok x.1.1.a y.1.1.a x.1.1.c y.1.1.c x.1.2 y.1.2 _ h1.2.1 h2.2.1
      rw [← h1.1, ← h2.1] at hc
      refine hc.mono ?_
      rintro e w' ⟨v, rfl, rfl, rfl⟩
      exact ⟨rfl, 0, #[], by rw [grow_empty]; rfl⟩
    have h := Any.slices_SortFunc Try.sortS encH (fun x => hd_one x.1.1) cfH swoH 35 #[] b 0 cap d W (enters_of Try.func35 (by kernel_rfl) rfl) hcmp hH (Array.getElem?_eq_some_iff.1 hg).1 (by omega)
    rw [hds] at h
    refine Calls.mono h ?_
    rintro e w' ⟨rfl, d', n, os, ⟨p1, _, p3⟩, hs, rfl⟩
    have q1 : d'.size = xs.length := by rw [p1, hds]
    obtain ⟨cur', c1, c2, c3⟩ := holds_own1 (enc := encH) (m := n) (d := d') (os := os) hg (by rw [q1]; exact g1) g3
    refine ⟨_, rfl, rfl, d'.toList.map (·.1), .inr ⟨b, cur', rfl, c1, by rw [List.length_map, List.length_map, Array.length_toList, q1]; exact g1, g2, c2, ?_⟩, ?_, ?_, (sortW1_foot _ _ _ _ _ _).mono (fun k hk => ⟨_, rfl, hk.symm⟩)⟩
    · rw [List.length_map, List.length_map, Array.length_toList, c3, hfl]; simp [Function.comp_def]
    · rw [← hdl]
      refine List.Perm.map _ ?_
      have e1 : d'.extract 0 xs.length = d' := by rw [← q1]; exact Array.extract_size
      have e2 : d.extract 0 xs.length = d := by rw [← hds]; exact Array.extract_size
      rw [e1, e2] at p3; exact p3
    · rw [List.pairwise_iff_getElem]
      intro i j hi hj hij
      rw [List.length_map, Array.length_toList] at hi hj
      have h1 := hs i j (Nat.zero_le _) hij (by omega)
      rw [getElem!_pos d' i hi, getElem!_pos d' j hj] at h1
      simp only [List.getElem_map, Array.getElem_toList]
      exact h1
/-- the rows that a map holds, sorted -/
theorem sorted_ok (gb g : Nat) (m : List (SK × Value)) (F : Fin m.length → Nh) (D : Nat → Prop) (W : World) (hb : W.heap[gb]? = some (.cells [Value.map (some g)].toArray 56 (0, 0))) (hm : MapL enS W.heap g m) (hf : ∀ i, mvE m i = hd (F i).1) (hD : ∀ i, NmV D W.heap (F i).1 (F i).2) (hl : m.length ≤ 100000) :
    Calls Try.prog 33 [.func (.func 50) #[] [Value.pointer (some ⟨gb, 0, none⟩)].toArray, .func (.func 35) #[] #[]].toArray W
      (Ret fun v w' => ∃ o c ys, v = .slice o (List.length (α := Nh) ys) c ∧ Own hd 29 w'.heap o c (ys.map (·.1)) ∧ ys.Perm ((List.finRange m.length).map F) ∧ ys.Pairwise ordH ∧ Fr W.heap.size o ∧ Foot nob W w') := by
  refine calls_of_sc 12 [(0, _), (1, _)] Try.func33 rfl rfl rfl (enter_slots ⟨rfl, rfl, trivial⟩) ?_
  refine Sc.seq ?_
  refine Sc.region ?_
  refine Sl.calm (Cm.assign rfl) rfl ?_
  refine Sl.nil ?_
  refine At.go ?_
  refine Sc.seq ?_
  refine Sc.region ?_
  refine Sl.calm (Cm.move rfl) rfl ?_
  refine Sl.call fn48 rfl (collect_ok gb g m (fun i => (F i).1) W hb hm hf hl) rfl ?_
  rintro _ w1 ⟨o, c, xs, rfl, hx, ho, hfo, hf1⟩
  have hxl : xs.length = m.length := by have := hx.length_eq; simpa using this
  have hpm : xs.Perm (List.finRange m.length) := by
    have h1 : (xs.map (·.1)).Perm ((List.finRange m.length).map (·.1)) := by
      have e : (List.finRange m.length).map (·.1) = List.range m.length := by simp [List.finRange, List.range_eq_range', List.ext_getElem_iff]
      rw [e]; exact hx
    have n1 : xs.Nodup := by
      have : (xs.map (·.1)).Nodup := hx.nodup_iff.2 List.nodup_range
      exact List.Pairwise.imp (fun {a b} h e => h (congrArg _ e)) (List.pairwise_map.1 this)
    have n2 : (List.finRange m.length).Nodup := List.nodup_finRange _
    rw [List.perm_ext_iff_of_nodup n1 n2]
    intro a
    refine ⟨fun _ => List.mem_finRange a, fun _ => ?_⟩
    have : a.1 ∈ xs.map (·.1) := hx.mem_iff.2 (List.mem_range.2 a.2)
    obtain ⟨b, hb2, e⟩ := List.mem_map.1 this
    rw [← Fin.ext e]; exact hb2
  have hox : Own hd 29 w1.heap o c ((xs.map F).map (·.1)) := by rw [List.map_map]; exact ho
  rw [show xs.length = (xs.map F).length by simp]
  refine Sl.calm (Cm.assign rfl) rfl ?_
  refine Sl.nil ?_
  refine At.weak [(0, _), (1, _), (4, _), (5, _)] ⟨rfl, rfl, rfl, rfl, trivial⟩ ?_
  refine At.go ?_
  refine Sc.seq ?_
  refine Sc.region ?_
  refine Sl.calm (Cm.move rfl) rfl ?_
  refine Sl.calm (Cm.move rfl) rfl ?_
  refine Sl.call fn49 rfl (sortH_ok o c (xs.map F) w1 hox (fun p hp b hb2 => by obtain ⟨i, _, rfl⟩ := List.mem_map.1 hp; have h := (hD i).keep hf1 (fun _ _ => id); exact ⟨h.1, h.2.1, fun hne k hk => ⟨fun e => by subst e; obtain ⟨a, ha, e1⟩ := hb2; obtain ⟨a2, ha2, e2⟩ := hk; have := hfo a ha; have := (hD i).2.1.lt hne a2 ha2; omega, by obtain ⟨a2, ha2, e2⟩ := hk; have := h.2.1.lt hne a2 ha2; omega⟩⟩) (by rw [List.length_map]; omega)) rfl ?_
  rintro _ w2 ⟨rfl, ys, hy, hyp, hys, hf2⟩
  refine Sl.nil ?_
  refine At.weak [(0, _), (1, _), (4, _), (5, _)] ⟨rfl, rfl, rfl, rfl, trivial⟩ ?_
  refine At.go ?_
  refine Sc.seq ?_
  refine Sc.region ?_
  refine Sl.calm (Cm.move rfl) rfl ?_
  refine Sl.calm (Cm.assign rfl) rfl ?_
  refine Sl.nil ?_
  refine At.weak [(0, _), (1, _), (4, _), (5, _)] ⟨rfl, rfl, rfl, rfl, trivial⟩ ?_
  refine At.go ?_
  refine Sc.ret ?_
  refine At.ret1 rfl rfl ?_
  exact ⟨_, rfl, o, c, ys, by rw [hyp.length_eq], hy, hyp.trans (hpm.map F), hys, hfo, hf1.trans_to hf2 hfo.step⟩
end Go.Proofs.Ytpamandneifemaa
/- Keys of a map that are pairs of numbers. No condition. -/
namespace Go.Proofs.Ytpamandneifemaa
open Go Go.RowKit Go.Maps
set_option linter.unusedVariables false

def enO (a : I6 × I6) : Value := .agg [.int .i64 a.1.1, .int .i64 a.2.1].toArray
theorem i6_wf (a : I6) : (Lit.int .i64 a.1).wf = true := by
  have h1 : IntKind.i64.min = -9223372036854775808 := rfl
  have h2 : IntKind.i64.max = 9223372036854775807 := rfl
  have := a.2
  simp [Lit.wf, h1, h2, this]
theorem lawO : WideMaps.KeyLaw Try.prog 66 := Go.deep_law_laid (P := Try.prog) (by kernel_rfl) (m := 2) (by omega) (by decide +kernel) (by kernel_rfl) (by kernel_rfl)
theorem i64_lits (d : Nat) (a : I6) : Try.prog.keyLits (d + 1) 3 [.int .i64 a.1] = some [.int .i64 a.1] := by
  unfold Program.keyLits
  simp only [Try.underlying3]
  simp [i6_wf a]
theorem keyO : KeyEnc Try.prog 66 enO := by
  refine ⟨Maps.Keyed.of_law lawO, fun a => ⟨.string (keyBytes [.int .i64 a.1.1, .int .i64 a.2.1]), ?_⟩, fun a b h => ?_⟩
  · obtain ⟨m, hm⟩ : ∃ m, Try.prog.types.size = m + 1 := ⟨Try.prog.types.size - 1, by kernel_rfl⟩
    unfold keyOf
    simp only [Try.underlying66]
    have h1 : Try.prog.keyType 66 = true := by kernel_rfl
    have h2 : Try.prog.cellsOf 66 = 2 := by kernel_rfl
    have h3 : Try.prog.cellsOf 3 = 1 := by kernel_rfl
    rw [if_pos (by simp [h1, Value.formed, Try.underlying66, h2, enO]), hm]
    unfold Program.keyLits
    simp only [Try.underlying66, Value.cells, enO]
    rw [if_pos ⟨by rw [h2]; rfl, by kernel_rfl⟩]
    simp [h3, i64_lits]
  · simp only [enO, Value.agg.injEq] at h
    have h2 := congrArg Array.toList h
    simp only [List.cons.injEq, Value.int.injEq, true_and, and_true] at h2
    exact Prod.ext (Subtype.ext h2.1) (Subtype.ext h2.2)
theorem mpO : MapT Try.prog 58 66 3 (.int .i64 0) := ⟨by kernel_rfl, by kernel_rfl⟩
end Go.Proofs.Ytpamandneifemaa
/- merge: Merge, the program's. No condition beyond the bounds that each states. -/
namespace Go.Proofs.Ytpamandneifemaa
open Go Go.RowKit Go.Maps
set_option linter.unusedVariables false

section
variable {P : Program} {N : Nt} {l : SF} {ty : TypeId} {pos : String} {aft : Array Edge} {CH : Array Obj → Prop} {x : Operand} {t k e : TypeId} {z : Value} {gd : Option (Nat × Bool)} {dd : Option Nat} {α : Type} {enc : α → Value} {g : Nat} {m : List (α × Value)}
theorem Cm.lenMap (ht : MapT P t k e z) (hx : evL l x = some (.map (some g))) (hm : ∀ H, CH H → MapL enc H g m) : Cm P N CH l ⟨dd, .call ⟨.builtin .len, #[x], #[t]⟩, ty, pos, aft, gd⟩ (.int .i64 m.length) := fun b w hb hw => by
  obtain ⟨h1, hn⟩ := hm _ hw
  have hg := MapKept.run_getObj_map (P := P) h1
  simp [execOp, hb.ev hx, resolve, invoke, builtin, Builtin.len_, run_underlying ht.und, hg, goInt, entE_len]
theorem setM_mem {α : Type} [DecidableEq α] {m : List (α × Value)} {a : α} {v : Value} {q : α × Value} (h : q ∈ setM m a v) : q = (a, v) ∨ q ∈ m := by
  induction m with
  | nil => simp [setM] at h; exact .inl h
  | cons p r ih =>
    unfold setM at h
    split at h
    · rcases List.mem_cons.1 h with h | h
      · exact .inl h
      · exact .inr (List.mem_cons_of_mem _ h)
    · rcases List.mem_cons.1 h with h | h
      · exact .inr (by rw [h]; simp)
      · exact (ih h).imp id (List.mem_cons_of_mem _)
theorem setM_len {α : Type} [DecidableEq α] (m : List (α × Value)) (a : α) (v : Value) : (setM m a v).length ≤ m.length + 1 := by
  induction m with
  | nil => simp [setM]
  | cons p r ih =>
    unfold setM
    split
    · simp
    · simp only [List.length_cons]; omega
end
theorem ownM_neMap {α β : Type} {enc : α → Value} {enc' : β → List Value} {K : Nat} {H : Array Obj} {g : Nat} {m : List (α × Value)} (hm : MapL enc H g m) {e : TypeId} {o : Option Addr} {c : Nat} {xs : List β} (h : OwnM K enc' e H o c xs) : ¬ blk o g := by
  rintro ⟨a, ha, rfl⟩
  obtain ⟨cur, hc⟩ := h.cells ha
  have := hm.1
  rw [hc] at this; cases this
theorem mpSL : MapT Try.prog 56 9 29 (.slice none 0 0) := ⟨by kernel_rfl, by kernel_rfl⟩
/-! the rows of names -/
def isRow (Ls : Lys) (e : SK × Value) (n : Nh) : Prop := ∃ j p, j < Ls.length ∧ p ∈ lyA Ls j ∧ e.1.1 = pathL p.2.names ∧ e.2 = hd p.1.names ∧ n = (p.1.names, p.2.names)
def RwM (Ls : Lys) (i k : Nat) (m : List (SK × Value)) : Prop := (∀ e ∈ m, ∃ n, isRow Ls e n) ∧ ∀ (j : Nat) (p : NdH × Nd), (j < i ∧ p ∈ lyA Ls j) ∨ (j = i ∧ p ∈ (lyA Ls i).take k) → ∃ v, (⟨pathL p.2.names, v⟩ : List UInt8 × Value) ∈ m.map (fun e => (e.1.1, e.2))
theorem RwM.nil (Ls : Lys) : RwM Ls 0 0 [] := ⟨fun e he => (by cases he), fun j p h => by
  rcases h with ⟨h, _⟩ | ⟨_, h⟩
  · omega
  · simp at h⟩
theorem RwM.next {Ls : Lys} {i : Nat} {m : List (SK × Value)} (h : RwM Ls i (lyA Ls i).length m) : RwM Ls (i + 1) 0 m := ⟨h.1, fun j p hj => by
  rcases hj with ⟨h1, h2⟩ | ⟨_, h2⟩
  · by_cases e : j = i
    · subst e; exact h.2 j p (.inr ⟨rfl, by rw [List.take_length]; exact h2⟩)
    · exact h.2 j p (.inl ⟨by omega, h2⟩)
  · simp at h2⟩
theorem setM_has {m : List (SK × Value)} {a : SK} {v : Value} : (a, v) ∈ setM m a v := by
  have h := setM_get m a v a
  rw [if_pos rfl] at h
  exact getM_mem h
theorem setM_old {m : List (SK × Value)} {a b : SK} {v u : Value} (h : (b, u) ∈ m) : ∃ x, (b, x) ∈ setM m a v := by
  by_cases e : b = a
  · subst e; exact ⟨v, setM_has⟩
  · refine ⟨u, ?_⟩
    induction m with
    | nil => cases h
    | cons p r ih =>
      unfold setM
      split
      · rename_i hp
        rcases List.mem_cons.1 h with h | h
        · rw [← h] at hp; exact absurd hp e
        · exact List.mem_cons_of_mem _ h
      · rcases List.mem_cons.1 h with h | h
        · rw [h]; simp
        · exact List.mem_cons_of_mem _ (ih h)
theorem RwM.put {Ls : Lys} {i k : Nat} {m : List (SK × Value)} (h : RwM Ls i k m) (hi : i < Ls.length) {p : NdH × Nd} (hp : (lyA Ls i)[k]? = some p) (hl : (pathL p.2.names).length ≤ maxLen) : RwM Ls i (k + 1) (setM m (⟨pathL p.2.names, hl⟩ : SK) (hd p.1.names)) := by
  refine ⟨fun e he => ?_, fun j q hq => ?_⟩
  · rcases setM_mem he with rfl | he
    · exact ⟨_, i, p, hi, List.mem_of_getElem? hp, rfl, rfl, rfl⟩
    · exact h.1 e he
  · have key : (∃ v, (⟨pathL q.2.names, v⟩ : List UInt8 × Value) ∈ m.map (fun e => (e.1.1, e.2))) → ∃ v, (⟨pathL q.2.names, v⟩ : List UInt8 × Value) ∈ (setM m (⟨pathL p.2.names, hl⟩ : SK) (hd p.1.names)).map (fun e => (e.1.1, e.2)) := fun ⟨v, hv⟩ => by
      obtain ⟨⟨b, u⟩, hb, e⟩ := List.mem_map.1 hv
      obtain ⟨x, hx⟩ := setM_old (a := (⟨pathL p.2.names, hl⟩ : SK)) (v := hd p.1.names) hb
      exact ⟨x, List.mem_map.2 ⟨_, hx, by have := congrArg Prod.fst e; simp at this; simp [this]⟩⟩
    rcases hq with ⟨h1, h2⟩ | ⟨h1, h2⟩
    · exact key (h.2 j q (.inl ⟨h1, h2⟩))
    · rw [tkL hp] at h2
      rcases List.mem_append.1 h2 with h2 | h2
      · exact key (h.2 j q (.inr ⟨h1, h2⟩))
      · rw [List.mem_singleton] at h2; subst h2
        exact ⟨_, List.mem_map.2 ⟨_, setM_has, rfl⟩⟩
theorem rows_all {Ls : Lys} (hg : GdA Ls) {m : List (SK × Value)} (h : RwM Ls Ls.length 0 m) (hn : (m.map (·.1)).Nodup) {F : Fin m.length → Nh} (hF : ∀ i : Fin m.length, isRow Ls (m[i.1]) (F i)) {ys : List Nh} (hp : ys.Perm ((List.finRange m.length).map F)) (hs : ys.Pairwise ordH) :
    (ys.map (·.2)).Pairwise (fun a b => lessN a b = true) ∧ (∀ (i : Nat) (p : NdH × Nd), i < Ls.length → p ∈ lyA Ls i → p.2.names ∈ ys.map (·.2)) := by
  have hmem : ∀ y, y ∈ ys ↔ ∃ i, y = F i := fun y => by
    rw [hp.mem_iff, List.mem_map]
    exact ⟨fun ⟨i, _, e⟩ => ⟨i, e.symm⟩, fun ⟨i, e⟩ => ⟨i, List.mem_finRange i, e.symm⟩⟩
  have hdist : ((List.finRange m.length).map F).Pairwise (fun a b => a.2 ≠ b.2) := by
    rw [List.pairwise_map]
    refine (List.nodup_finRange m.length).imp (fun {a b} hab e => hab ?_)
    obtain ⟨j, p, _, hpm, h1, _, h3⟩ := hF a
    obtain ⟨j2, q, _, hqm, g1, _, g3⟩ := hF b
    rw [h3, g3] at e
    have e : p.2.names = q.2.names := e
    have ek : (m[a.1]).1 = (m[b.1]).1 := Subtype.ext (by rw [h1, g1, e])
    have key : ∀ (x y : Fin m.length), x.1 < y.1 → (m[x.1]).1 ≠ (m[y.1]).1 := fun x y hxy e => by
      have := List.pairwise_iff_getElem.1 hn x.1 y.1 (by simp) (by simp) hxy
      simp only [List.getElem_map] at this
      exact this e
    apply Fin.ext
    rcases Nat.lt_trichotomy a.1 b.1 with g | g | g
    · exact absurd ek (key a b g)
    · exact g
    · exact absurd ek.symm (key b a g)
  have hd2 : ys.Pairwise (fun a b => a.2 ≠ b.2) := (hp.pairwise_iff (fun h e => h e.symm)).2 hdist
  refine ⟨?_, fun i p hi hpm => ?_⟩
  · rw [List.pairwise_map]
    refine (hs.and hd2).imp (fun {a b} hab => ?_)
    rcases lessN_not.1 hab.1 with e | e
    · exact absurd e.symm hab.2
    · exact e
  · obtain ⟨v, hv⟩ := h.2 i p (.inl ⟨hi, hpm⟩)
    obtain ⟨⟨a, u⟩, hb, e⟩ := List.mem_map.1 hv
    obtain ⟨k, hk⟩ := List.getElem?_of_mem hb
    have hkl := (List.getElem?_eq_some_iff.1 hk).1
    have hke := (List.getElem?_eq_some_iff.1 hk).2
    obtain ⟨j, q, hj, hq, h1, h2, h3⟩ := hF ⟨k, hkl⟩
    refine List.mem_map.2 ⟨F ⟨k, hkl⟩, (hmem _).2 ⟨_, rfl⟩, ?_⟩
    rw [h3]
    have e1 : a.1 = pathL p.2.names := congrArg Prod.fst e
    simp only at h1
    rw [hke] at h1
    have e2 : pathL q.2.names = pathL p.2.names := by rw [← e1]; exact h1.symm
    exact pathL_inj (gd_names (hg.at j) hq).1 (gd_names (hg.at i) hpm).1 e2
/-! numbers -/
def MapP (Z zs : List Int) (m : List ((I6 × I6) × Value)) : Prop := (∀ a : I6 × I6, 0 ≤ a.1.1 → getM m a = if cdI a.1.1.toNat a.2.1 ∈ zs then some (.int .i64 (numZ Z (cdI a.1.1.toNat a.2.1))) else none) ∧ m.length = (seenOf zs).length
section
variable {Z zs : List Int} {m : List ((I6 × I6) × Value)}
theorem MapP.nil : MapP Z [] [] := ⟨fun a _ => by simp [getM], rfl⟩
theorem MapP.old (h : MapP Z zs m) {c : Int} (hc : c ∈ zs) : MapP Z (zs ++ [c]) m := ⟨fun a ha => by
  rw [h.1 a ha]
  have : (cdI a.1.1.toNat a.2.1 ∈ zs) ↔ cdI a.1.1.toNat a.2.1 ∈ zs ++ [c] := by
    rw [List.mem_append, List.mem_singleton]
    exact ⟨.inl, fun g => g.elim id (fun e => e ▸ hc)⟩
  by_cases g : cdI a.1.1.toNat a.2.1 ∈ zs
  · rw [if_pos g, if_pos (this.1 g)]
  · rw [if_neg g, if_neg (fun k => g (this.2 k))], by rw [h.2, seen_len_old hc]⟩
theorem MapP.new (h : MapP Z zs m) (a : I6 × I6) (ha : 0 ≤ a.1.1) (hc : cdI a.1.1.toNat a.2.1 ∉ zs) : MapP Z (zs ++ [cdI a.1.1.toNat a.2.1]) (setM m a (.int .i64 (numZ Z (cdI a.1.1.toNat a.2.1)))) := ⟨fun b hb => by
  rw [setM_get]
  by_cases e : b = a
  · subst e; rw [if_pos rfl, if_pos (by simp)]
  · rw [if_neg e, h.1 b hb]
    have hne : cdI b.1.1.toNat b.2.1 ≠ cdI a.1.1.toNat a.2.1 := fun g => by
      obtain ⟨g1, g2⟩ := cd_inj b.2.2 a.2.2 g
      exact e (Prod.ext (Subtype.ext (by omega)) (Subtype.ext g2))
    by_cases g : cdI b.1.1.toNat b.2.1 ∈ zs
    · rw [if_pos g, if_pos (List.mem_append_left _ g)]
    · rw [if_neg g, if_neg (fun k => by rcases List.mem_append.1 k with k | k; exact g k; exact hne (List.mem_singleton.1 k))], by
  rw [setM_none _ (by rw [h.1 a ha, if_neg hc]), List.length_append, List.length_singleton, h.2, seen_len_new hc]⟩
end
def visJ (Ls : Lys) (ys : List Nh) (j : Nat) : List (NdH × Nd) := ((ys.map (·.2)).take j).filterMap (seeF Ls)
theorem visJ_tk {Ls : Lys} {ys : List Nh} {j : Nat} {y : Nh} (hy : ys[j]? = some y) : (ys.map (·.2)).take (j + 1) = (ys.map (·.2)).take j ++ [y.2] := tkL (by rw [List.getElem?_map, hy]; rfl)
theorem visJ_none {Ls : Lys} {ys : List Nh} {j : Nat} {y : Nh} (hy : ys[j]? = some y) (h : srcs Ls y.2 = []) : visJ Ls ys (j + 1) = visJ Ls ys j := by
  unfold visJ
  rw [visJ_tk (Ls := Ls) hy, List.filterMap_append]
  simp [seeF, h]
theorem visJ_some {Ls : Lys} {ys : List Nh} {j : Nat} {y : Nh} (hy : ys[j]? = some y) {i : Nat} {r : List Nat} (h : srcs Ls y.2 = i :: r) : visJ Ls ys (j + 1) = visJ Ls ys j ++ [visN i (nAt Ls i y.2)] := by
  unfold visJ
  rw [visJ_tk (Ls := Ls) hy, List.filterMap_append]
  simp [seeF, h]
theorem visJ_pre {Ls : Lys} {ys : List Nh} (hall : visJ Ls ys ys.length = srtP (visL Ls)) {j : Nat} (hj : j ≤ ys.length) : ∃ r, inosOf (srtP (visL Ls)) = inosOf (visJ Ls ys j) ++ r := by
  rw [← hall]
  unfold visJ
  rw [List.take_of_length_le (l := ys.map (·.2)) (i := ys.length) (by simp)]
  conv => congr; ext; lhs; rw [← List.take_append_drop j (ys.map (·.2)), List.filterMap_append]
  exact ⟨_, by unfold inosOf; rw [List.map_append]⟩
theorem NdV.real {D : Nat → Prop} {H : Array Obj} {p : NdH × Nd} (v : NdV D H p) : NdV (fun k => k < H.size) H p := by
  have hb : ∀ {h : Hd} {l : List UInt8}, ByV D H h l → ByV (fun k => k < H.size) H h l := fun v => ⟨v.1, v.2.1, fun hne k ⟨a, ha, e⟩ => by have := v.2.1.lt hne a ha; show k < H.size; omega⟩
  refine ⟨⟨v.1.1, v.1.2.1, fun hne k ⟨a, ha, e⟩ => by have := v.1.2.1.lt hne a ha; show k < H.size; omega⟩, hb v.2.1, ?_⟩
  obtain ⟨h1, ys, h2, h3, h4, h5⟩ := v.2.2
  refine ⟨h1, ys, h2, h3, fun hne k ⟨a, ha, e⟩ => ?_, fun i x y hx hy => ⟨(h5 i x y hx hy).1, hb (h5 i x y hx hy).2⟩⟩
  have := h2.lt hne (fun x => by simp [encX]) a ha
  show k < H.size; omega
theorem renP_vis (Z : List Int) (i : Nat) (p : NdH × Nd) : (renP Z (visN i p)).2 = { p.2 with opq := false, ino := numZ Z (cdI i p.2.ino) } := rfl
end Go.Proofs.Ytpamandneifemaa
