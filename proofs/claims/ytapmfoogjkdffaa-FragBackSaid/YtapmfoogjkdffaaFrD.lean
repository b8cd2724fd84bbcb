/- frag: the reference's Add. No condition beyond the bounds that it states. -/
import Derived.Test.YtapmfoogjkdffaaFrC
namespace Go.Proofs.Ytapmfoogjkdffaa
open Go Go.RowKit
set_option linter.unusedVariables false

/-- the references packer in memory -/
def RefR (D : Nat → Prop) (H : Array Obj) (p : Nat) (L : List (List UInt8)) : Prop :=
  ∃ Din ao c hs, H[p]? = some (.cells [.slice ao hs.length c].toArray 29 (0, 0)) ∧ Own hd 30 H ao c hs ∧ RowsV Din H hs L ∧ (¬ blk ao p) ∧ D p ∧ (∀ k, blk ao k → D k) ∧ (∀ k, Din k → D k ∧ k ≠ p ∧ ¬ blk ao k)

theorem RefR.keep {D S : Nat → Prop} {w w' : World} {p : Nat} {L : List (List UInt8)} (h : RefR D w.heap p L) (f : Foot S w w') (hs : ∀ k, D k → ¬ S k) : RefR D w'.heap p L := by
  obtain ⟨Din, ao, c, gs, h1, h2, h3, h4, h5, h6, h7⟩ := h
  exact ⟨Din, ao, c, gs, f.obj h1 (hs p h5), h2.keep f (fun a ha => hs _ (h6 _ ⟨a, ha, rfl⟩)), h3.keep f (fun k hk => hs k (h7 k hk).1), h4, h5, h6, h7⟩

def RAddPost (D : Nat → Prop) (W : World) (p : Nat) (L : List (List UInt8)) (w' : World) : Prop :=
  ∃ D', RefR D' w'.heap p L ∧ (∀ k, D' k → D k ∨ W.heap.size ≤ k) ∧ (∀ k, D' k → k < w'.heap.size) ∧ Foot D W w'

/-- the references law -/
def addR (L : List (List UInt8)) (t : List UInt8) : List (List UInt8) × Nat × Nat :=
  if badT t then (L, 0, 0) else
  if L = [] ∨ 128 < (L.getD (L.length - 1) []).length + t.length then (L ++ [t], L.length + 1, 0) else (L.set (L.length - 1) (L.getD (L.length - 1) [] ++ t), L.length, (L.getD (L.length - 1) []).length)

theorem getD_last (L : List (List UInt8)) : L.getD (L.length - 1) [] = L.getLast?.getD [] := by
  rw [List.getLast?_eq_getElem?]; simp [List.getD]
theorem addR_eq (L : List (List UInt8)) (t : List UInt8) : addR L t = addL L t := by
  unfold addR addL
  split
  · rfl
  · rw [getD_last]
    split
    · rename_i h
      rw [newL_new L t h]; simp [pushLast]
    · rename_i h
      have hne : L ≠ [] := fun e => h (.inl e)
      rw [newL_old L t hne (fun e => h (.inr e))]
      refine Prod.ext ?_ rfl
      show L.set (L.length - 1) _ = pushLast L t
      unfold pushLast
      conv => lhs; rw [← List.dropLast_concat_getLast hne]
      have hl : (L.dropLast ++ [L.getLast hne]).length - 1 = L.dropLast.length := by simp
      rw [hl, List.set_append_right _ _ (Nat.le_refl _), List.getLast?_eq_some_getLast hne]
      simp

theorem RowsV.set {D : Nat → Prop} {H : Array Obj} {hs : List Hd} {L : List (List UInt8)} (h : RowsV D H hs L) {k : Nat} {x : Hd} {xs : List UInt8} (h1 : x.n = xs.length) (h2 : Vw b8 H x.a x.c xs) (h3 : xs ≠ [] → ∀ k, blk x.a k → D k) : RowsV D H (hs.set k x) (L.set k xs) := by
  refine ⟨by simp [h.1], fun i y ys hy hys => ?_⟩
  by_cases hik : k = i
  · subst hik
    have hk1 : k < hs.length := by have := (List.getElem?_eq_some_iff.1 hy).1; simpa using this
    have hk2 : k < L.length := by rw [← h.1]; exact hk1
    rw [List.getElem?_set_self hk1] at hy
    rw [List.getElem?_set_self hk2] at hys
    cases hy; cases hys
    exact ⟨h1, h2, h3⟩
  · rw [List.getElem?_set_ne hik] at hy hys
    exact h.2 i y ys hy hys

theorem radd_new {D Din : Nat → Prop} {W w3 w4 w5 : World} {p : Nat} {L : List (List UInt8)} {t : List UInt8} {gs : List Hd} {ao to2 ao4 : Option Addr} {c2 c4 : Nat} (hD : ∀ k, D k → k < W.heap.size)
    (hrg : RowsV Din W.heap gs L) (hap : ¬ blk ao p) (hDp : D p) (hDa : ∀ k, blk ao k → D k) (hDin : ∀ k, Din k → D k ∧ k ≠ p ∧ ¬ blk ao k) (hF3 : Foot nob W w3)
    (ho2 : Own b8 5 w3.heap to2 c2 t) (hfr2 : Fr W.heap.size to2) (ho4 : Own hd 30 w4.heap ao4 c4 (gs ++ [⟨to2, t.length, c2⟩])) (hf4 : Foot (blk ao) w3 w4) (hr4 : ∀ a, ao4 = some a → ao = some a ∨ w3.heap.size ≤ a.block)
    (hg5 : w5.heap[p]? = some (.cells [.slice ao4 (gs ++ [(⟨to2, t.length, c2⟩ : Hd)]).length c4].toArray 29 (0, 0))) (hf5 : Foot (· = p) w4 w5) : RAddPost D W p (L ++ [t]) w5 := by
  have hWp := hD p hDp
  have s3 := hF3.size
  have s4 := hf4.size
  have s5 := hf5.size
  have hap4 : ¬ blk ao4 p := fun ⟨a, ha, hb⟩ => by
    rcases hr4 a ha with h | h
    · exact hap ⟨a, h, hb⟩
    · omega
  have hto : ∀ a, to2 = some a → ¬ blk ao a.block ∧ a.block ≠ p ∧ a.block < w3.heap.size ∧ W.heap.size ≤ a.block := fun a ha => by
    have h1 := hfr2 a ha
    refine ⟨fun ⟨b, hb, e⟩ => by have := hD _ (hDa _ ⟨b, hb, e⟩); omega, by omega, ho2.lt a ha, h1⟩
  refine ⟨fun k => D k ∨ (W.heap.size ≤ k ∧ k < w5.heap.size), ⟨fun k => Din k ∨ blk to2 k, ao4, c4, _, hg5, ho4.keep hf5 (fun a ha h => hap4 ⟨a, ha, h⟩), ?_, hap4, .inl hDp, ?_, ?_⟩, ?_, ?_, ?_⟩
  · have h1 := ((hrg.keep hF3 (fun _ _ h => h)).keep hf4 (fun k hk => (hDin k hk).2.2)).keep hf5 (fun k hk => (hDin k hk).2.1)
    exact (h1.mono (D' := fun k => Din k ∨ blk to2 k) (fun k h => .inl h)).snoc rfl ((ho2.keep hf4 (fun a ha => (hto a ha).1)).keep hf5 (fun a ha => (hto a ha).2.1)).vw (fun _ k hk => .inr hk)
  · rintro k ⟨a, ha, rfl⟩
    rcases hr4 a ha with h | h
    · exact .inl (hDa _ ⟨a, h, rfl⟩)
    · have := ho4.lt a ha; exact .inr ⟨by omega, by omega⟩
  · intro k hk
    rcases hk with hk | ⟨a, ha, rfl⟩
    · refine ⟨.inl (hDin k hk).1, (hDin k hk).2.1, fun ⟨b, hb, e⟩ => ?_⟩
      rcases hr4 b hb with h | h
      · exact (hDin k hk).2.2 ⟨b, h, e⟩
      · have := hD k (hDin k hk).1; omega
    · have h1 := hto a ha
      refine ⟨.inr ⟨h1.2.2.2, by omega⟩, h1.2.1, fun ⟨b, hb, e⟩ => ?_⟩
      rcases hr4 b hb with h | h
      · exact h1.1 ⟨b, h, e⟩
      · omega
  · intro k hk; rcases hk with hk | hk
    · exact .inl hk
    · exact .inr hk.1
  · intro k hk; rcases hk with hk | hk
    · have := hD k hk; omega
    · exact hk.2
  · exact ((hF3.mono (fun _ h => h.elim)).trans (hf4.mono (fun k h => hDa k h))).trans (hf5.mono (fun k h => by subst h; exact hDp))

theorem radd_old {D Din : Nat → Prop} {W w3 w4 : World} {p : Nat} {L : List (List UInt8)} {xs : List UInt8} {gs : List Hd} {ao to3 : Option Addr} {c c3 i : Nat} (hD : ∀ k, D k → k < W.heap.size)
    (hobj : W.heap[p]? = some (.cells [.slice ao gs.length c].toArray 29 (0, 0))) (hrg : RowsV Din W.heap gs L) (hap : ¬ blk ao p) (hDp : D p) (hDa : ∀ k, blk ao k → D k) (hDin : ∀ k, Din k → D k ∧ k ≠ p ∧ ¬ blk ao k) (hF3 : Foot nob W w3)
    (ho3 : Own b8 5 w3.heap to3 c3 xs) (hfr3 : Fr W.heap.size to3) (ho4 : Own hd 30 w4.heap ao c (gs.set i ⟨to3, xs.length, c3⟩)) (hf4 : Foot (blk ao) w3 w4) : RAddPost D W p (L.set i xs) w4 := by
  have hWp := hD p hDp
  have s3 := hF3.size
  have s4 := hf4.size
  have hto : ∀ a, to3 = some a → ¬ blk ao a.block ∧ a.block ≠ p ∧ a.block < w3.heap.size ∧ W.heap.size ≤ a.block := fun a ha => by
    have h1 := hfr3 a ha
    refine ⟨fun ⟨b, hb, e⟩ => by have := hD _ (hDa _ ⟨b, hb, e⟩); omega, by omega, ho3.lt a ha, h1⟩
  refine ⟨fun k => D k ∨ (W.heap.size ≤ k ∧ k < w4.heap.size), ⟨fun k => Din k ∨ blk to3 k, ao, c, _, ?_, ho4, ?_, hap, .inl hDp, fun k hk => .inl (hDa k hk), ?_⟩, ?_, ?_, ?_⟩
  · rw [List.length_set]; exact hf4.obj (hF3.obj hobj (fun h => h)) hap
  · have h1 := (hrg.keep hF3 (fun _ _ h => h)).keep hf4 (fun k hk => (hDin k hk).2.2)
    exact (h1.mono (D' := fun k => Din k ∨ blk to3 k) (fun k h => .inl h)).set rfl (ho3.keep hf4 (fun a ha => (hto a ha).1)).vw (fun _ k hk => .inr hk)
  · intro k hk
    rcases hk with hk | ⟨a, ha, rfl⟩
    · exact ⟨.inl (hDin k hk).1, (hDin k hk).2⟩
    · have h1 := hto a ha
      exact ⟨.inr ⟨h1.2.2.2, by omega⟩, h1.2.1, h1.1⟩
  · intro k hk; rcases hk with hk | hk
    · exact .inl hk
    · exact .inr hk.1
  · intro k hk; rcases hk with hk | hk
    · have := hD k hk; omega
    · exact hk.2
  · exact (hF3.mono (fun _ h => h.elim)).trans (hf4.mono (fun k h => hDa k h))

set_option maxHeartbeats 1000000 in
theorem radd_ok (D : Nat → Prop) (p : Nat) (L : List (List UInt8)) (to : Option Addr) (tc : Nat) (t : List UInt8) (W : World) (hP : RefR D W.heap p L) (hD : ∀ k, D k → k < W.heap.size)
    (hv : Vw b8 W.heap to tc t) (hb2 : L.length ≤ 1099511627776) (hb3 : ∀ x ∈ L, x.length ≤ 1099511627776) :
    Calls Try.prog 18 [.pointer (some ⟨p, 0, none⟩), .slice to t.length tc].toArray W
      (Ret fun v w' => v = .tuple #[inN (addR L t).2.1, inN (addR L t).2.2] ∧ RAddPost D W p (addR L t).1 w') := by
  have hl := hv.len63
  have hPP := hP
  obtain ⟨Din, ao, c, gs, hobj, hout, hrg, hap, hDp, hDa, hDin⟩ := hP
  have hgl := hrg.1
  refine calls_of_sc 80 [(0, _), (1, _)] Try.func18 rfl rfl rfl (enter_slots ⟨rfl, rfl, trivial⟩) ?_
  refine Sc.seq ?_
  refine Sc.region ?_
  refine Sl.calm (Cm.assign rfl) rfl ?_
  refine Sl.calm (Cm.assign rfl) rfl ?_
  refine Sl.nil ?_
  refine At.go ?_
  refine Sc.seq ?_
  refine Sc.seq ?_
  refine Sc.region ?_
  refine Sl.calm (Cm.move rfl) rfl ?_
  refine Sl.calm (Cm.len sl30 rfl) rfl ?_
  refine Sl.fork (Cm.lss rfl rfl) rfl (fun h10 => ?_) (fun h10 => ?_)
  ·
    refine Sl.calm (Cm.move rfl) rfl ?_
    refine Sl.skip rfl rfl rfl rfl ?_
    refine Sl.skip rfl rfl rfl rfl ?_
    refine Sl.skip rfl rfl rfl rfl ?_
    refine Sl.calm (Cm.pick_t rfl rfl) rfl ?_
    refine Sl.nil ?_
    refine At.weak [(0, _), (1, _), (4, _), (5, _), (15, _)] ⟨rfl, rfl, rfl, rfl, rfl, trivial⟩ ?_
    refine At.go ?_
    refine Sc.cond_t rfl ?_
    refine Sc.seq ?_
    refine Sc.region ?_
    refine Sl.calm (Cm.assign rfl) rfl ?_
    refine Sl.calm (Cm.assign rfl) rfl ?_
    refine Sl.nil ?_
    refine At.go ?_
    refine Sc.ret ?_
    refine At.then_ret ?_
    refine At.ret2 rfl rfl rfl ?_
    have hbad : badT t = true := badT_yes (by omega)
    exact ⟨_, rfl, by simp [addR, hbad, inN], ⟨D, by rw [show addR L t = (L, 0, 0) from by simp [addR, hbad]]; exact hPP, fun _ h => .inl h, hD, Foot.refl _ _⟩⟩
  ·
    refine Sl.calm (Cm.move rfl) rfl ?_
    refine Sl.want rfl rfl (Cm.move rfl) rfl ?_
    refine Sl.want rfl rfl (Cm.len sl30 rfl) rfl ?_
    refine Sl.forkWant rfl rfl (Cm.geq rfl rfl) rfl (fun h14 => ?_) (fun h14 => ?_)
    ·
      refine Sl.calm (Cm.pick_f rfl rfl) rfl ?_
      refine Sl.nil ?_
      refine At.weak [(0, _), (1, _), (4, _), (5, _), (15, _)] ⟨rfl, rfl, rfl, rfl, rfl, trivial⟩ ?_
      refine At.go ?_
      refine Sc.cond_t rfl ?_
      refine Sc.seq ?_
      refine Sc.region ?_
      refine Sl.calm (Cm.assign rfl) rfl ?_
      refine Sl.calm (Cm.assign rfl) rfl ?_
      refine Sl.nil ?_
      refine At.go ?_
      refine Sc.ret ?_
      refine At.then_ret ?_
      refine At.ret2 rfl rfl rfl ?_
      have hbad : badT t = true := badT_yes (by omega)
      exact ⟨_, rfl, by simp [addR, hbad, inN], ⟨D, by rw [show addR L t = (L, 0, 0) from by simp [addR, hbad]]; exact hPP, fun _ h => .inl h, hD, Foot.refl _ _⟩⟩
    ·
      refine Sl.calm (Cm.pick_f rfl rfl) rfl ?_
      refine Sl.nil ?_
      refine At.weak [(0, _), (1, _), (4, _), (5, _), (15, _)] ⟨rfl, rfl, rfl, rfl, rfl, trivial⟩ ?_
      refine At.go ?_
      refine Sc.cond_f rfl ?_
      refine Sc.skip ?_
      refine At.go ?_
      refine Sc.seq ?_
      refine Sc.region ?_
      refine Sl.calm (Cm.move rfl) rfl ?_
      refine Sl.calm (Cm.nilCheck rfl) rfl ?_
      refine Sl.calm (Cm.field fld29_0 rfl) rfl ?_
      refine Sl.calm (Cm.ld sca22 rfl (cellF hobj rfl)) rfl ?_
      refine Sl.calm (Cm.len sl22 rfl) rfl ?_
      refine Sl.calm (Cm.sub64 rfl rfl (by omega)) rfl ?_
      refine Sl.calm (Cm.assign rfl) rfl ?_
      refine Sl.nil ?_
      refine At.weak [(0, _), (1, _), (4, _), (5, _), (6, _), (15, _)] ⟨rfl, rfl, rfl, rfl, rfl, rfl, trivial⟩ ?_
      refine At.go ?_
      refine Sc.seq ?_
      refine Sc.seq ?_
      refine Sc.region ?_
      refine Sl.calm (Cm.move rfl) rfl ?_
      refine Sl.fork (Cm.lss rfl rfl) rfl (fun h23 => ?_) (fun h23 => ?_)
      ·
        refine Sl.calm (Cm.move rfl) rfl ?_
        refine Sl.skip rfl rfl rfl rfl ?_
        refine Sl.skip rfl rfl rfl rfl ?_
        refine Sl.skip rfl rfl rfl rfl ?_
        refine Sl.skip rfl rfl rfl rfl ?_
        refine Sl.skip rfl rfl rfl rfl ?_
        refine Sl.skip rfl rfl rfl rfl ?_
        refine Sl.skip rfl rfl rfl rfl ?_
        refine Sl.skip rfl rfl rfl rfl ?_
        refine Sl.skip rfl rfl rfl rfl ?_
        refine Sl.skip rfl rfl rfl rfl ?_
        refine Sl.skip rfl rfl rfl rfl ?_
        refine Sl.skip rfl rfl rfl rfl ?_
        refine Sl.calm (Cm.pick_t rfl rfl) rfl ?_
        refine Sl.nil ?_
        refine At.weak [(0, _), (1, _), (4, _), (5, _), (6, _), (15, _), (37, _)] ⟨rfl, rfl, rfl, rfl, rfl, rfl, rfl, trivial⟩ ?_
        refine At.go ?_
        refine Sc.cond_t rfl ?_
        refine Sc.seq ?_
        refine Sc.draw 12 (fun H => H[p]? = some (.cells [.slice ao gs.length c].toArray 29 (0, 0))) [5, 7, 8, 9, 12] [0, 1, 2, 3, 4, 6, 5, 7, 8, 9, 10, 11, 12] mixed (by kernel_rfl) (hobj) ?_
        refine Sx.calm rfl rfl (Cm.move rfl) rfl ?_
        refine Sx.calm rfl rfl (Cm.move rfl) rfl ?_
        refine Sx.calm rfl rfl (Cm.nilCheck rfl) rfl ?_
        refine Sx.calm rfl rfl (Cm.field fld29_0 rfl) rfl ?_
        refine Sx.calm rfl rfl (Cm.load sca22 rfl (fun H hH => cellF hH rfl)) rfl ?_
        refine Sx.calm rfl rfl (Cm.move rfl) rfl ?_
        refine Sx.eff rfl rfl (Sl.lit0 b8 sl30 rfl ?_)
        intro w1 ho1 hs1 hf1
        refine Sx.on (by exact hf1.obj hobj (fun h => h)) ?_
        refine Sx.eff rfl rfl (Sl.append b8_one sl30 rfl rfl ho1 (hv.grow hf1.undraw) (by simp only [List.length_nil]; omega) (by simp only [List.length_nil]; unfold maxLen; omega) rfl ?_)
        intro to2 c2 w2 ho2 hf2 hr2 hn2
        have hp : p < W.heap.size := hD p hDp
        have hnp1 : ¬ blk (some (⟨W.heap.size, 0, none⟩ : Addr)) p := fun ⟨a, ha, hb⟩ => by cases ha; exact absurd hb (by show W.heap.size ≠ p; omega)
        refine Sx.on (by exact hf2.obj (hf1.obj hobj (fun h => h)) (fun h => hnp1 h)) ?_
        refine Sx.eff rfl rfl (Sl.lit1 (enc := hd) (u := ⟨to2, t.length, c2⟩) sl22 rfl rfl rfl ?_)
        intro w3 ho3 hs3 hf3
        refine Sx.on (by exact hf3.obj (hf2.obj (hf1.obj hobj (fun h => h)) hnp1) (fun h => h)) ?_
        have hao1 : ∀ a, ao = some a → ¬ blk (some (⟨W.heap.size, 0, none⟩ : Addr)) a.block := fun a ha ⟨b, hb, e⟩ => by cases hb; have := hout.lt a ha; have e2 : W.heap.size = a.block := e; omega
        have hout3 := ((hout.grow hf1.undraw).keep hf2 hao1).grow hf3
        refine Sx.eff rfl rfl (Sl.append hd_one sl22 rfl rfl hout3 ho3.vw (by simp only [List.length_singleton]; omega) (by simp only [List.length_singleton]; unfold maxLen; omega) rfl ?_)
        intro ao4 c4 w4 ho4 hf4 hr4 hn4
        refine Sx.on (by exact hf4.obj (hf3.obj (hf2.obj (hf1.obj hobj (fun h => h)) hnp1) (fun h => h)) hap) ?_
        refine Sx.calm rfl rfl (Cm.nilCheck rfl) rfl ?_
        refine Sx.calm rfl rfl (Cm.field fld29_0 rfl) rfl ?_
        refine Sx.eff rfl rfl (Sl.store sca22 rfl rfl rfl (hf4.obj (hf3.obj (hf2.obj (hf1.obj hobj (fun h => h)) hnp1) (fun h => h)) hap) rfl ?_)
        intro w5 hg5 hs5 hf5
        refine Sx.last rfl ?_
        refine Sx.nil ?_
        refine At.weak [(0, _), (1, _), (4, _), (5, _), (6, _), (15, _), (37, _)] ⟨rfl, rfl, rfl, rfl, rfl, rfl, rfl, trivial⟩ ?_
        refine At.go ?_
        refine Sc.seq ?_
        refine Sc.region ?_
        refine Sl.calm (Cm.move rfl) rfl ?_
        refine Sl.calm (Cm.add64 rfl rfl (by omega)) rfl ?_
        refine Sl.calm (Cm.assign rfl) rfl ?_
        refine Sl.calm (Cm.assign rfl) rfl ?_
        refine Sl.nil ?_
        refine At.weak [(0, _), (1, _), (4, _), (5, _), (6, _), (15, _), (37, _)] ⟨rfl, rfl, rfl, rfl, rfl, rfl, rfl, trivial⟩ ?_
        refine At.go ?_
        refine Sc.ret ?_
        refine At.then_ret ?_
        refine At.ret2 rfl rfl rfl ?_
        have hgood : badT t = false := badT_no (by omega)
        have hnew : addR L t = (L ++ [t], L.length + 1, 0) := by simp only [addR, hgood, Bool.false_eq_true, if_false]; rw [if_pos (.inl (List.eq_nil_of_length_eq_zero (by omega)))]
        refine ⟨_, rfl, by rw [hnew]; exact tup2 (by show _ = ((L.length + 1 : Nat) : Int); omega) rfl, ?_⟩
        rw [hnew]
        have hfr2 : Fr W.heap.size to2 := fr_next (fr_at _) hr2 hf1.undraw.size
        exact radd_new hD hrg hap hDp hDa hDin ((hf1.undraw.trans_to hf2 (fr_at _).step).trans hf3) (ho2.grow hf3) hfr2 ho4 hf4 hr4 hg5 hf5
      ·
        refine Sl.calm (Cm.move rfl) rfl ?_
        refine Sl.want rfl rfl (Cm.move rfl) rfl ?_
        refine Sl.want rfl rfl (Cm.nilCheck rfl) rfl ?_
        refine Sl.want rfl rfl (Cm.field fld29_0 rfl) rfl ?_
        refine Sl.want rfl rfl (Cm.ld sca22 rfl (cellF hobj rfl)) rfl ?_
        refine Sl.want rfl rfl (Cm.move rfl) rfl ?_
        have hne : L ≠ [] := by intro e; subst e; simp at hgl; simp [hgl] at h23
        have hpos : 0 < L.length := List.length_pos_iff.2 hne
        obtain ⟨⟨xa, xn, xc⟩, hx, hxn, hxv, hxD⟩ := (hrg.at (i := L.length - 1) (by omega))
        obtain rfl : xn = (L.getD (L.length - 1) []).length := hxn
        have hcell : cellH W.heap (adr ao ((gs.length : Int) - 1).toNat) = some (.slice xa (L.getD (L.length - 1) []).length xc) := by rw [show ((gs.length : Int) - 1).toNat = L.length - 1 from by omega]; exact hout.vw.get _ _ hx
        have hxm : (L.getD (L.length - 1) []).length ≤ 1099511627776 := hb3 _ (by rw [List.getD, List.getElem?_eq_getElem (by omega : L.length - 1 < L.length)]; exact List.getElem_mem _)
        refine Sl.want rfl rfl (Cm.indexAddr1 sl22 rfl rfl hout.vw.non (by omega)) rfl ?_
        refine Sl.want rfl rfl (Cm.ld sca30 rfl hcell) rfl ?_
        refine Sl.want rfl rfl (Cm.len sl30 rfl) rfl ?_
        refine Sl.want rfl rfl (Cm.move rfl) rfl ?_
        refine Sl.want rfl rfl (Cm.len sl30 rfl) rfl ?_
        refine Sl.want rfl rfl (Cm.add64 rfl rfl (by omega)) rfl ?_
        refine Sl.forkWant rfl rfl (Cm.gtr rfl rfl) rfl (fun h36 => ?_) (fun h36 => ?_)
        ·
          refine Sl.calm (Cm.pick_f rfl rfl) rfl ?_
          refine Sl.nil ?_
          refine At.weak [(0, _), (1, _), (4, _), (5, _), (6, _), (15, _), (37, _)] ⟨rfl, rfl, rfl, rfl, rfl, rfl, rfl, trivial⟩ ?_
          refine At.go ?_
          refine Sc.cond_t rfl ?_
          refine Sc.seq ?_
          refine Sc.draw 12 (fun H => H[p]? = some (.cells [.slice ao gs.length c].toArray 29 (0, 0))) [5, 7, 8, 9, 12] [0, 1, 2, 3, 4, 6, 5, 7, 8, 9, 10, 11, 12] mixed (by kernel_rfl) (hobj) ?_
          refine Sx.calm rfl rfl (Cm.move rfl) rfl ?_
          refine Sx.calm rfl rfl (Cm.move rfl) rfl ?_
          refine Sx.calm rfl rfl (Cm.nilCheck rfl) rfl ?_
          refine Sx.calm rfl rfl (Cm.field fld29_0 rfl) rfl ?_
          refine Sx.calm rfl rfl (Cm.load sca22 rfl (fun H hH => cellF hH rfl)) rfl ?_
          refine Sx.calm rfl rfl (Cm.move rfl) rfl ?_
          refine Sx.eff rfl rfl (Sl.lit0 b8 sl30 rfl ?_)
          intro w1 ho1 hs1 hf1
          refine Sx.on (by exact hf1.obj hobj (fun h => h)) ?_
          refine Sx.eff rfl rfl (Sl.append b8_one sl30 rfl rfl ho1 (hv.grow hf1.undraw) (by simp only [List.length_nil]; omega) (by simp only [List.length_nil]; unfold maxLen; omega) rfl ?_)
          intro to2 c2 w2 ho2 hf2 hr2 hn2
          have hp : p < W.heap.size := hD p hDp
          have hnp1 : ¬ blk (some (⟨W.heap.size, 0, none⟩ : Addr)) p := fun ⟨a, ha, hb⟩ => by cases ha; exact absurd hb (by show W.heap.size ≠ p; omega)
          refine Sx.on (by exact hf2.obj (hf1.obj hobj (fun h => h)) (fun h => hnp1 h)) ?_
          refine Sx.eff rfl rfl (Sl.lit1 (enc := hd) (u := ⟨to2, t.length, c2⟩) sl22 rfl rfl rfl ?_)
          intro w3 ho3 hs3 hf3
          refine Sx.on (by exact hf3.obj (hf2.obj (hf1.obj hobj (fun h => h)) hnp1) (fun h => h)) ?_
          have hao1 : ∀ a, ao = some a → ¬ blk (some (⟨W.heap.size, 0, none⟩ : Addr)) a.block := fun a ha ⟨b, hb, e⟩ => by cases hb; have := hout.lt a ha; have e2 : W.heap.size = a.block := e; omega
          have hout3 := ((hout.grow hf1.undraw).keep hf2 hao1).grow hf3
          refine Sx.eff rfl rfl (Sl.append hd_one sl22 rfl rfl hout3 ho3.vw (by simp only [List.length_singleton]; omega) (by simp only [List.length_singleton]; unfold maxLen; omega) rfl ?_)
          intro ao4 c4 w4 ho4 hf4 hr4 hn4
          refine Sx.on (by exact hf4.obj (hf3.obj (hf2.obj (hf1.obj hobj (fun h => h)) hnp1) (fun h => h)) hap) ?_
          refine Sx.calm rfl rfl (Cm.nilCheck rfl) rfl ?_
          refine Sx.calm rfl rfl (Cm.field fld29_0 rfl) rfl ?_
          refine Sx.eff rfl rfl (Sl.store sca22 rfl rfl rfl (hf4.obj (hf3.obj (hf2.obj (hf1.obj hobj (fun h => h)) hnp1) (fun h => h)) hap) rfl ?_)
          intro w5 hg5 hs5 hf5
          refine Sx.last rfl ?_
          refine Sx.nil ?_
          refine At.weak [(0, _), (1, _), (4, _), (5, _), (6, _), (15, _), (37, _)] ⟨rfl, rfl, rfl, rfl, rfl, rfl, rfl, trivial⟩ ?_
          refine At.go ?_
          refine Sc.seq ?_
          refine Sc.region ?_
          refine Sl.calm (Cm.move rfl) rfl ?_
          refine Sl.calm (Cm.add64 rfl rfl (by omega)) rfl ?_
          refine Sl.calm (Cm.assign rfl) rfl ?_
          refine Sl.calm (Cm.assign rfl) rfl ?_
          refine Sl.nil ?_
          refine At.weak [(0, _), (1, _), (4, _), (5, _), (6, _), (15, _), (37, _)] ⟨rfl, rfl, rfl, rfl, rfl, rfl, rfl, trivial⟩ ?_
          refine At.go ?_
          refine Sc.ret ?_
          refine At.then_ret ?_
          refine At.ret2 rfl rfl rfl ?_
          have hgood : badT t = false := badT_no (by omega)
          have hnew : addR L t = (L ++ [t], L.length + 1, 0) := by simp only [addR, hgood, Bool.false_eq_true, if_false]; rw [if_pos (.inr (by omega))]
          refine ⟨_, rfl, by rw [hnew]; exact tup2 (by show _ = ((L.length + 1 : Nat) : Int); omega) rfl, ?_⟩
          rw [hnew]
          have hfr2 : Fr W.heap.size to2 := fr_next (fr_at _) hr2 hf1.undraw.size
          exact radd_new hD hrg hap hDp hDa hDin ((hf1.undraw.trans_to hf2 (fr_at _).step).trans hf3) (ho2.grow hf3) hfr2 ho4 hf4 hr4 hg5 hf5
        ·
          refine Sl.calm (Cm.pick_f rfl rfl) rfl ?_
          refine Sl.nil ?_
          refine At.weak [(0, _), (1, _), (4, _), (5, _), (6, _), (15, _), (37, _)] ⟨rfl, rfl, rfl, rfl, rfl, rfl, rfl, trivial⟩ ?_
          refine At.go ?_
          refine Sc.cond_f rfl ?_
          refine Sc.skip ?_
          refine At.go ?_
          refine Sc.seq ?_
          refine Sc.region ?_
          refine Sl.calm (Cm.move rfl) rfl ?_
          refine Sl.calm (Cm.nilCheck rfl) rfl ?_
          refine Sl.calm (Cm.field fld29_0 rfl) rfl ?_
          refine Sl.calm (Cm.ld sca22 rfl (cellF hobj rfl)) rfl ?_
          refine Sl.calm (Cm.move rfl) rfl ?_
          refine Sl.calm (Cm.indexAddr1 sl22 rfl rfl hout.vw.non (by omega)) rfl ?_
          refine Sl.calm (Cm.ld sca30 rfl hcell) rfl ?_
          refine Sl.calm (Cm.len sl30 rfl) rfl ?_
          refine Sl.calm (Cm.assign rfl) rfl ?_
          refine Sl.nil ?_
          refine At.weak [(0, _), (1, _), (4, _), (5, _), (6, _), (7, _), (15, _), (37, _)] ⟨rfl, rfl, rfl, rfl, rfl, rfl, rfl, rfl, trivial⟩ ?_
          refine At.go ?_
          refine Sc.seq ?_
          refine Sc.draw 17 (fun H => H[p]? = some (.cells [.slice ao gs.length c].toArray 29 (0, 0)) ∧ cellH H (adr ao ((gs.length : Int) - 1).toNat) = some (.slice xa (L.getD (L.length - 1) []).length xc)) [5, 13, 15, 17] [0, 1, 2, 3, 4, 6, 7, 8, 9, 10, 11, 12, 14, 5, 13, 15, 16, 17] mixed (by kernel_rfl) (⟨hobj, hcell⟩) ?_
          refine Sx.calm rfl rfl (Cm.move rfl) rfl ?_
          refine Sx.calm rfl rfl (Cm.nilCheck rfl) rfl ?_
          refine Sx.calm rfl rfl (Cm.field fld29_0 rfl) rfl ?_
          refine Sx.calm rfl rfl (Cm.load sca22 rfl (fun H hH => cellF hH.1 rfl)) rfl ?_
          refine Sx.calm rfl rfl (Cm.move rfl) rfl ?_
          refine Sx.calm rfl rfl (Cm.move rfl) rfl ?_
          refine Sx.calm rfl rfl (Cm.nilCheck rfl) rfl ?_
          refine Sx.calm rfl rfl (Cm.field fld29_0 rfl) rfl ?_
          refine Sx.calm rfl rfl (Cm.load sca22 rfl (fun H hH => cellF hH.1 rfl)) rfl ?_
          refine Sx.calm rfl rfl (Cm.move rfl) rfl ?_
          refine Sx.calm rfl rfl (Cm.indexAddr1 sl22 rfl rfl hout.vw.non (by omega)) rfl ?_
          refine Sx.calm rfl rfl (Cm.load sca30 rfl (fun H hH => hH.2)) rfl ?_
          refine Sx.calm rfl rfl (Cm.move rfl) rfl ?_
          refine Sx.eff rfl rfl (Sl.lit0 b8 sl30 rfl ?_)
          intro w1 ho1 hs1 hf1
          have hcell1 : cellH w1.heap (adr ao ((gs.length : Int) - 1).toNat) = some (.slice xa (L.getD (L.length - 1) []).length xc) := by rw [show ((gs.length : Int) - 1).toNat = L.length - 1 from by omega]; exact (hout.grow hf1.undraw).vw.get _ _ hx
          refine Sx.on (by exact ⟨hf1.obj hobj (fun h => h), hcell1⟩) ?_
          refine Sx.eff rfl rfl (Sl.append b8_one sl30 rfl rfl ho1 (hxv.grow hf1.undraw) (by simp only [List.length_nil]; omega) (by simp only [List.length_nil]; unfold maxLen; omega) rfl ?_)
          intro to2 c2 w2 ho2 hf2 hr2 hn2
          have hp : p < W.heap.size := hD p hDp
          have hnp1 : ¬ blk (some (⟨W.heap.size, 0, none⟩ : Addr)) p := fun ⟨a, ha, hb⟩ => by cases ha; exact absurd hb (by show W.heap.size ≠ p; omega)
          have hF2 : Foot nob W w2 := hf1.undraw.trans_to hf2 (fr_at _).step
          have hcell2 : cellH w2.heap (adr ao ((gs.length : Int) - 1).toNat) = some (.slice xa (L.getD (L.length - 1) []).length xc) := by rw [show ((gs.length : Int) - 1).toNat = L.length - 1 from by omega]; exact (hout.grow hF2).vw.get _ _ hx
          refine Sx.on (by exact ⟨hf2.obj (hf1.obj hobj (fun h => h)) hnp1, hcell2⟩) ?_
          refine Sx.eff rfl rfl (Sl.append b8_one sl30 rfl rfl ho2 (hv.grow hF2) (by simp only [List.nil_append]; omega) (by simp only [List.nil_append]; unfold maxLen; omega) rfl ?_)
          intro to3 c3 w3 ho3 hf3 hr3 hn3
          have hfr2 : Fr W.heap.size to2 := fr_next (fr_at _) hr2 hf1.undraw.size
          have hF3 : Foot nob W w3 := hF2.trans_to hf3 hfr2.step
          have hcell3 : cellH w3.heap (adr ao ((gs.length : Int) - 1).toNat) = some (.slice xa (L.getD (L.length - 1) []).length xc) := by rw [show ((gs.length : Int) - 1).toNat = L.length - 1 from by omega]; exact (hout.grow hF3).vw.get _ _ hx
          refine Sx.on (by exact ⟨hF3.obj hobj (fun h => h), hcell3⟩) ?_
          refine Sx.calm rfl rfl (Cm.indexAddr1 sl22 rfl rfl hout.vw.non (by omega)) rfl ?_
          refine Sx.eff rfl rfl (Sl.storeRow hd_one sca30 (z := (gs.length : Int) - 1) (u := ⟨to3, ([] ++ L.getD (L.length - 1) [] ++ t).length, c3⟩) rfl rfl (hout.grow hF3) (by omega) ?_)
          intro w4 ho4 hs4 hf4
          refine Sx.last rfl ?_
          refine Sx.nil ?_
          refine At.weak [(0, _), (1, _), (4, _), (5, _), (6, _), (7, _), (15, _), (37, _)] ⟨rfl, rfl, rfl, rfl, rfl, rfl, rfl, rfl, trivial⟩ ?_
          refine At.go ?_
          refine Sc.seq ?_
          refine Sc.region ?_
          refine Sl.calm (Cm.move rfl) rfl ?_
          refine Sl.calm (Cm.add64 rfl rfl (by omega)) rfl ?_
          refine Sl.calm (Cm.move rfl) rfl ?_
          refine Sl.calm (Cm.assign rfl) rfl ?_
          refine Sl.calm (Cm.assign rfl) rfl ?_
          refine Sl.nil ?_
          refine At.weak [(0, _), (1, _), (4, _), (5, _), (6, _), (7, _), (15, _), (37, _)] ⟨rfl, rfl, rfl, rfl, rfl, rfl, rfl, rfl, trivial⟩ ?_
          refine At.go ?_
          refine Sc.ret ?_
          refine At.ret2 rfl rfl rfl ?_
          have hgood : badT t = false := badT_no (by omega)
          have hold : addR L t = (L.set (L.length - 1) (L.getD (L.length - 1) [] ++ t), L.length, (L.getD (L.length - 1) []).length) := by simp only [addR, hgood, Bool.false_eq_true, if_false]; rw [if_neg (by intro h; rcases h with h | h; exact hne h; omega)]
          refine ⟨_, rfl, by rw [hold]; exact tup2 (by show _ = ((L.length : Nat) : Int); omega) rfl, ?_⟩
          rw [hold]
          have hfr3 : Fr W.heap.size to3 := fr_next hfr2 hr3 (by have := hF2.size; omega)
          rw [show ((gs.length : Int) - 1).toNat = L.length - 1 from by omega] at ho4
          exact radd_old hD hobj hrg hap hDp hDa hDin hF3 ho3 hfr3 ho4 hf4
end Go.Proofs.Ytapmfoogjkdffaa
