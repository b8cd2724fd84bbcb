/- frag: the packer's plain law, and what New, Add, Clone come to. No condition beyond the bounds that each states. -/
import Derived.Test.YtapmfoogjkdffaaGen
namespace Go.Proofs.Ytapmfoogjkdffaa
open Go Go.RowKit
set_option linter.unusedVariables false

/-! plain -/
def newL (L : List (List UInt8)) (t : List UInt8) : List (List UInt8) :=
  match L.getLast? with
  | none => L ++ [[]]
  | some b => if 128 < b.length + t.length then L ++ [[]] else L
def pushLast (L : List (List UInt8)) (t : List UInt8) : List (List UInt8) := L.dropLast ++ [(L.getLast?.getD []) ++ t]
def badT (t : List UInt8) : Bool := t.length < 1 || 128 ≤ t.length
theorem badT_yes {t : List UInt8} (h : t.length < 1 ∨ 128 ≤ t.length) : badT t = true := by unfold badT; simpa only [Bool.or_eq_true, decide_eq_true_eq] using h
theorem badT_no {t : List UInt8} (h : 1 ≤ t.length ∧ t.length < 128) : badT t = false := by
  unfold badT; rw [Bool.or_eq_false_iff]; simp only [decide_eq_false_iff_not]; omega
theorem badT_inv {t : List UInt8} (h : badT t = false) : 1 ≤ t.length ∧ t.length < 128 := by
  unfold badT at h; rw [Bool.or_eq_false_iff] at h; simp only [decide_eq_false_iff_not] at h; omega
def addL (L : List (List UInt8)) (t : List UInt8) : List (List UInt8) × Nat × Nat :=
  if badT t then (L, 0, 0) else (pushLast (newL L t) t, (newL L t).length, ((newL L t).getLast?.getD []).length)

def offs : Nat → List (List UInt8) → List Nat
  | _, [] => []
  | k, b :: r => k :: offs (k + b.length) r

theorem offs_length : ∀ (k : Nat) (L : List (List UInt8)), (offs k L).length = L.length
  | _, [] => rfl
  | k, b :: r => by simp [offs, offs_length _ r]
theorem offs_append : ∀ (k : Nat) (A B : List (List UInt8)), offs k (A ++ B) = offs k A ++ offs (k + A.flatten.length) B
  | k, [], B => by simp [offs]
  | k, a :: A, B => by simp [offs, offs_append _ A B, Nat.add_assoc]
theorem flatten_dropLast (L : List (List UInt8)) (h : L ≠ []) : L.dropLast.flatten ++ L.getLast h = L.flatten := by
  conv => rhs; rw [← List.dropLast_concat_getLast h]
  simp
theorem getLastD (L : List (List UInt8)) (h : L ≠ []) : L.getLast?.getD [] = L.getLast h := by rw [List.getLast?_eq_some_getLast h]; rfl
theorem offs_last (L : List (List UInt8)) (h : L ≠ []) : (offs 0 L).getD (L.length - 1) 0 = L.dropLast.flatten.length := by
  have e : L = L.dropLast ++ [L.getLast h] := (List.dropLast_concat_getLast h).symm
  have hl : L.length - 1 = (offs 0 L.dropLast).length := by rw [offs_length]; simp
  rw [hl]
  conv => lhs; rw [e, offs_append]
  simp [offs, List.getD]
theorem offs_last_add (L : List (List UInt8)) (h : L ≠ []) : (offs 0 L).getD (L.length - 1) 0 + (L.getLast?.getD []).length = L.flatten.length := by
  rw [offs_last L h, getLastD L h, ← flatten_dropLast L h, List.length_append]
theorem offs_push (L : List (List UInt8)) (t : List UInt8) (h : L ≠ []) : offs 0 (pushLast L t) = offs 0 L := by
  conv => rhs; rw [← List.dropLast_concat_getLast h]
  simp [pushLast, offs_append, offs]
theorem flatten_push (L : List (List UInt8)) (t : List UInt8) (h : L ≠ []) : (pushLast L t).flatten = L.flatten ++ t := by
  rw [pushLast, getLastD L h, ← flatten_dropLast L h]; simp
theorem offs_new (L : List (List UInt8)) : offs 0 (L ++ [[]]) = offs 0 L ++ [L.flatten.length] := by simp [offs_append, offs]
theorem newL_ne (L : List (List UInt8)) (t : List UInt8) : newL L t ≠ [] := by
  unfold newL; split
  · simp
  · rename_i b hb; split
    · simp
    · intro h; simp [h] at hb
theorem newL_new (L : List (List UInt8)) (t : List UInt8) (h : L = [] ∨ 128 < (L.getLast?.getD []).length + t.length) : newL L t = L ++ [[]] := by
  unfold newL
  split
  · rfl
  · rename_i b hb
    rcases h with h | h
    · simp [h] at hb
    · rw [hb] at h; exact if_pos h
theorem newL_old (L : List (List UInt8)) (t : List UInt8) (h1 : L ≠ []) (h2 : ¬ 128 < (L.getLast?.getD []).length + t.length) : newL L t = L := by
  unfold newL
  split
  · rename_i hb; simp at hb; exact absurd hb h1
  · rename_i b hb; rw [hb] at h2; exact if_neg h2
theorem newL_flatten (L : List (List UInt8)) (t : List UInt8) : (newL L t).flatten = L.flatten := by
  unfold newL; split
  · simp
  · split <;> simp
theorem newL_len (L : List (List UInt8)) (t : List UInt8) : L.length ≤ (newL L t).length ∧ (newL L t).length ≤ L.length + 1 := by
  unfold newL; split
  · simp
  · split <;> simp

/-! the packer in memory -/
def PackR (D : Nat → Prop) (H : Array Obj) (p : Nat) (L : List (List UInt8)) : Prop :=
  ∃ ao c bo c', H[p]? = some (.cells [.slice ao L.flatten.length c, .slice bo (offs 0 L).length c'].toArray 61 (0, 0)) ∧ Own b8 5 H ao c L.flatten ∧ Own inN 3 H bo c' (offs 0 L) ∧
    Ap ao bo ∧ (¬ blk ao p) ∧ (¬ blk bo p) ∧ D p ∧ (∀ k, blk ao k → D k) ∧ (∀ k, blk bo k → D k)

theorem PackR.keep {D S : Nat → Prop} {w w' : World} {p : Nat} {L : List (List UInt8)} (h : PackR D w.heap p L) (f : Foot S w w') (hs : ∀ k, D k → ¬ S k) : PackR D w'.heap p L := by
  obtain ⟨ao, c, bo, c', h1, h2, h3, h4, h5, h6, h7, h8, h9⟩ := h
  exact ⟨ao, c, bo, c', f.obj h1 (hs p h7), h2.keep f (fun a ha => hs _ (h8 _ ⟨a, ha, rfl⟩)), h3.keep f (fun a ha => hs _ (h9 _ ⟨a, ha, rfl⟩)), h4, h5, h6, h7, h8, h9⟩

def AddPost (D : Nat → Prop) (W : World) (p : Nat) (L : List (List UInt8)) (w' : World) : Prop :=
  ∃ D', PackR D' w'.heap p L ∧ (∀ k, D' k → D k ∨ W.heap.size ≤ k) ∧ (∀ k, D' k → k < w'.heap.size) ∧ Foot D W w'

theorem AddPost.draws {D : Nat → Prop} {W w : World} {p : Nat} {L : List (List UInt8)} (h : AddPost D W p L w) (n : Nat) : AddPost D W p L (w.drewN n) := by
  obtain ⟨D', h1, h2, h3, h4⟩ := h
  exact ⟨D', h1, h2, h3, h4.draws n⟩
theorem AddPost.same {D : Nat → Prop} {W : World} {p : Nat} {L : List (List UInt8)} (h : PackR D W.heap p L) (hD : ∀ k, D k → k < W.heap.size) : AddPost D W p L W :=
  ⟨D, h, fun _ hk => .inl hk, hD, Foot.refl _ _⟩

theorem inN_len (L : List (List UInt8)) : (offs 0 L).length = L.length := offs_length 0 L

/-- a new block was begun -/
theorem add_mid {D : Nat → Prop} {W w1 w2 w3 : World} {p : Nat} {L : List (List UInt8)} {ao bo bo2 : Option Addr} {c c2 : Nat} (hD : ∀ k, D k → k < W.heap.size)
    (hrow : Own b8 5 W.heap ao c L.flatten) (hap : Ap ao bo) (hap1 : ¬ blk ao p) (hbp : ¬ blk bo p) (hDp : D p) (hDa : ∀ k, blk ao k → D k) (hDb : ∀ k, blk bo k → D k)
    (hf1 : Foot nob W w1) (ho2 : Own inN 3 w2.heap bo2 c2 (offs 0 L ++ [L.flatten.length])) (hf2 : Foot (blk bo) w1 w2) (hr2 : ∀ a, bo2 = some a → bo = some a ∨ w1.heap.size ≤ a.block)
    (hg3 : w3.heap[p]? = some (.cells [.slice ao L.flatten.length c, .slice bo2 (offs 0 L ++ [L.flatten.length]).length c2].toArray 61 (0, 0))) (hf3 : Foot (· = p) w2 w3) : AddPost D W p (L ++ [[]]) w3 := by
  have hWp := hD p hDp
  have s1 := hf1.size
  have s2 := hf2.size
  have hbo2p : ¬ blk bo2 p := fun ⟨a, ha, hb⟩ => by
    rcases hr2 a ha with h | h
    · exact hbp ⟨a, h, hb⟩
    · omega
  have hab : Ap ao bo2 := fun a b ha hb e => by
    rcases hr2 b hb with h | h
    · exact hap a b ha h e
    · have := hD _ (hDa _ ⟨a, ha, rfl⟩); omega
  have e1 : (L ++ [[]]).flatten = L.flatten := by simp
  have F2 : Foot (blk bo) W w2 := (hf1.mono (fun _ h => h.elim)).trans hf2
  refine ⟨fun k => D k ∨ (W.heap.size ≤ k ∧ k < w3.heap.size), ⟨ao, c, bo2, c2, ?_, ?_, ?_, hab, hap1, hbo2p, .inl hDp, fun k hk => .inl (hDa k hk), ?_⟩, ?_, ?_, ?_⟩
  · rw [e1, offs_new]; exact hg3
  · rw [e1]
    exact (hrow.keep F2 (fun a ha h => by obtain ⟨b, hb, e⟩ := h; exact hap a b ha hb e.symm)).keep hf3 (fun a ha h => hap1 ⟨a, ha, h⟩)
  · rw [offs_new]; exact ho2.keep hf3 (fun a ha h => hbo2p ⟨a, ha, h⟩)
  · rintro k ⟨a, ha, rfl⟩
    rcases hr2 a ha with h | h
    · exact .inl (hDb _ ⟨a, h, rfl⟩)
    · have h5 := ho2.lt a ha
      have := hf3.size
      exact .inr ⟨by omega, by omega⟩
  · intro k hk; rcases hk with hk | hk
    · exact .inl hk
    · exact .inr hk.1
  · intro k hk; rcases hk with hk | hk
    · have := hD k hk; have := hf3.size; omega
    · exact hk.2
  · exact (F2.mono (fun k h => hDb k h)).trans (hf3.mono (fun k h => by subst h; exact hDp))

theorem add_end {D D1 : Nat → Prop} {W w1 w3 w4 : World} {p : Nat} {L : List (List UInt8)} {t : List UInt8} {ao bo ao3 : Option Addr} {c3 c' : Nat} (hne : L ≠ []) (hD1 : ∀ k, D1 k → D k ∨ W.heap.size ≤ k) (hD2 : ∀ k, D1 k → k < w1.heap.size) (hF : Foot D W w1)
    (hbeg : Own inN 3 w1.heap bo c' (offs 0 L)) (hap : Ap ao bo) (hap1 : ¬ blk ao p) (hbp : ¬ blk bo p) (hDp : D1 p) (hDa : ∀ k, blk ao k → D1 k) (hDb : ∀ k, blk bo k → D1 k)
    (ho3 : Own b8 5 w3.heap ao3 c3 (L.flatten ++ t)) (hf3 : Foot (blk ao) w1 w3) (hr3 : ∀ a, ao3 = some a → ao = some a ∨ w1.heap.size ≤ a.block)
    (hg4 : w4.heap[p]? = some (.cells [.slice ao3 (L.flatten ++ t).length c3, .slice bo (offs 0 L).length c'].toArray 61 (0, 0))) (hf4 : Foot (· = p) w3 w4) : AddPost D W p (pushLast L t) w4 := by
  have hWp := hD2 p hDp
  have s0 := hF.size
  have s3 := hf3.size
  have s4 := hf4.size
  have ha3p : ¬ blk ao3 p := fun ⟨a, ha, hb⟩ => by
    rcases hr3 a ha with h | h
    · exact hap1 ⟨a, h, hb⟩
    · omega
  have hab : Ap ao3 bo := fun a b ha hb e => by
    rcases hr3 a ha with h | h
    · exact hap a b h hb e
    · have := hD2 _ (hDb _ ⟨b, hb, rfl⟩); omega
  refine ⟨fun k => D1 k ∨ (w1.heap.size ≤ k ∧ k < w4.heap.size), ⟨ao3, c3, bo, c', ?_, ?_, ?_, hab, ha3p, hbp, .inl hDp, ?_, fun k hk => .inl (hDb k hk)⟩, ?_, ?_, ?_⟩
  · rw [flatten_push L t hne, offs_push L t hne]; exact hg4
  · rw [flatten_push L t hne]; exact ho3.keep hf4 (fun a ha h => ha3p ⟨a, ha, h⟩)
  · rw [offs_push L t hne]
    exact (hbeg.keep hf3 (fun a ha h => by obtain ⟨b, hb, e⟩ := h; exact hap b a hb ha e)).keep hf4 (fun a ha h => hbp ⟨a, ha, h⟩)
  · rintro k ⟨a, ha, rfl⟩
    rcases hr3 a ha with h | h
    · exact .inl (hDa _ ⟨a, h, rfl⟩)
    · have h5 := ho3.lt a ha
      exact .inr ⟨h, by omega⟩
  · intro k hk; rcases hk with hk | hk
    · exact hD1 k hk
    · exact .inr (by omega)
  · intro k hk; rcases hk with hk | hk
    · have := hD2 k hk; omega
    · exact hk.2
  · refine hF.trans_to ((hf3.mono (fun k h => hDa k h)).trans (hf4.mono (fun k h => by subst h; exact hDp))) hD1

set_option maxHeartbeats 1000000 in
theorem add_ok (D : Nat → Prop) (p : Nat) (L : List (List UInt8)) (to : Option Addr) (tc : Nat) (t : List UInt8) (W : World) (hP : PackR D W.heap p L) (hD : ∀ k, D k → k < W.heap.size)
    (hv : Vw b8 W.heap to tc t) (hvD : t ≠ [] → ∀ a, to = some a → ¬ D a.block) (hb1 : L.flatten.length ≤ 1099511627776) (hb2 : L.length ≤ 1099511627776) :
    Calls Try.prog 17 [.pointer (some ⟨p, 0, none⟩), .slice to t.length tc].toArray W
      (Ret fun v w' => v = .tuple #[inN (addL L t).2.1, inN (addL L t).2.2] ∧ AddPost D W p (addL L t).1 w') := by
  have hl := hv.len63
  have hPP := hP
  obtain ⟨ao, c, bo, c', hobj, hrow, hbeg, hap, hap1, hbp, hDp, hDa, hDb⟩ := hP
  have hol := offs_length 0 L
  refine calls_of_sc 83 [(0, _), (1, _)] Try.func17 rfl rfl rfl (enter_slots ⟨rfl, rfl, trivial⟩) ?_
  refine Sc.seq ?_
  refine Sc.region ?_
  refine Sl.calm (Cm.assign rfl) rfl ?_
  refine Sl.calm (Cm.assign rfl) rfl ?_
  refine Sl.nil ?_
  refine At.go ?_
  refine Sc.seq ?_
  refine Sc.seq ?_
  refine Sc.region ?_
  refine Sl.calm (Cm.move rfl) rfl ?_
  refine Sl.calm (Cm.len sl30 rfl) rfl ?_
  refine Sl.fork (Cm.lss rfl rfl) rfl (fun h9 => ?_) (fun h9 => ?_)
  ·
    refine Sl.calm (Cm.move rfl) rfl ?_
    refine Sl.skip rfl rfl rfl rfl ?_
    refine Sl.skip rfl rfl rfl rfl ?_
    refine Sl.skip rfl rfl rfl rfl ?_
    refine Sl.calm (Cm.pick_t rfl rfl) rfl ?_
    refine Sl.nil ?_
    refine At.weak [(0, _), (1, _), (4, _), (5, _), (14, _)] ⟨rfl, rfl, rfl, rfl, rfl, trivial⟩ ?_
    refine At.go ?_
    refine Sc.cond_t rfl ?_
    refine Sc.seq ?_
    refine Sc.region ?_
    refine Sl.calm (Cm.assign rfl) rfl ?_
    refine Sl.calm (Cm.assign rfl) rfl ?_
    refine Sl.nil ?_
    refine At.go ?_
    refine Sc.ret ?_
    refine At.then_ret ?_
    refine At.ret2 rfl rfl rfl ?_
    have hbad : badT t = true := badT_yes (by omega)
    exact ⟨_, rfl, by simp [addL, hbad, inN], by rw [show addL L t = (L, 0, 0) from by simp [addL, hbad]]; exact AddPost.same hPP hD⟩
  ·
    refine Sl.calm (Cm.move rfl) rfl ?_
    refine Sl.want rfl rfl (Cm.move rfl) rfl ?_
    refine Sl.want rfl rfl (Cm.len sl30 rfl) rfl ?_
    refine Sl.forkWant rfl rfl (Cm.geq rfl rfl) rfl (fun h13 => ?_) (fun h13 => ?_)
    ·
      refine Sl.calm (Cm.pick_f rfl rfl) rfl ?_
      refine Sl.nil ?_
      refine At.weak [(0, _), (1, _), (4, _), (5, _), (14, _)] ⟨rfl, rfl, rfl, rfl, rfl, trivial⟩ ?_
      refine At.go ?_
      refine Sc.cond_t rfl ?_
      refine Sc.seq ?_
      refine Sc.region ?_
      refine Sl.calm (Cm.assign rfl) rfl ?_
      refine Sl.calm (Cm.assign rfl) rfl ?_
      refine Sl.nil ?_
      refine At.go ?_
      refine Sc.ret ?_
      refine At.then_ret ?_
      refine At.ret2 rfl rfl rfl ?_
      have hbad : badT t = true := badT_yes (by omega)
      exact ⟨_, rfl, by simp [addL, hbad, inN], by rw [show addL L t = (L, 0, 0) from by simp [addL, hbad]]; exact AddPost.same hPP hD⟩
    ·
      refine Sl.calm (Cm.pick_f rfl rfl) rfl ?_
      refine Sl.nil ?_
      refine At.weak [(0, _), (1, _), (4, _), (5, _), (14, _)] ⟨rfl, rfl, rfl, rfl, rfl, trivial⟩ ?_
      refine At.go ?_
      refine Sc.cond_f rfl ?_
      refine Sc.skip ?_
      refine At.go ?_
      refine Sc.seq ?_
      refine Sc.region ?_
      refine Sl.calm (Cm.move rfl) rfl ?_
      refine Sl.calm (Cm.nilCheck rfl) rfl ?_
      refine Sl.calm (Cm.field fld61_1 rfl) rfl ?_
      refine Sl.calm (Cm.ld sca35 rfl (cellF hobj rfl)) rfl ?_
      refine Sl.calm (Cm.len sl35 rfl) rfl ?_
      refine Sl.calm (Cm.assign rfl) rfl ?_
      refine Sl.nil ?_
      refine At.weak [(0, _), (1, _), (4, _), (5, _), (6, _), (14, _)] ⟨rfl, rfl, rfl, rfl, rfl, rfl, trivial⟩ ?_
      refine At.go ?_
      refine Sc.cut (β := Unit) (fun _u => [(0, .pointer (some ⟨p, 0, none⟩)), (1, .slice to t.length tc), (6, .int .i64 (newL L t).length)]) (fun _u w => badT t = false ∧ AddPost D W p (newL L t) w) ?_ ?_
      ·
        refine Sc.seq ?_
        refine Sc.quiet 22 [0, 1, 2, 3, 4, 5, 6, 7, 8, 9, 10, 11, 12, 13, 14, 15, 16, 17, 18, 19, 20, 21] mixed (by kernel_rfl) ?_
        refine Sx.calm rfl rfl (Cm.move rfl) rfl ?_
        refine Sx.fork rfl rfl (Cm.eql rfl rfl) rfl (fun h21 => ?_) (fun h21 => ?_)
        ·
          refine Sx.calm rfl rfl (Cm.move rfl) rfl ?_
          refine Sx.skip rfl rfl rfl rfl rfl rfl ?_
          refine Sx.skip rfl rfl rfl rfl rfl rfl ?_
          refine Sx.skip rfl rfl rfl rfl rfl rfl ?_
          refine Sx.skip rfl rfl rfl rfl rfl rfl ?_
          refine Sx.skip rfl rfl rfl rfl rfl rfl ?_
          refine Sx.skip rfl rfl rfl rfl rfl rfl ?_
          refine Sx.skip rfl rfl rfl rfl rfl rfl ?_
          refine Sx.skip rfl rfl rfl rfl rfl rfl ?_
          refine Sx.skip rfl rfl rfl rfl rfl rfl ?_
          refine Sx.skip rfl rfl rfl rfl rfl rfl ?_
          refine Sx.skip rfl rfl rfl rfl rfl rfl ?_
          refine Sx.skip rfl rfl rfl rfl rfl rfl ?_
          refine Sx.skip rfl rfl rfl rfl rfl rfl ?_
          refine Sx.skip rfl rfl rfl rfl rfl rfl ?_
          refine Sx.skip rfl rfl rfl rfl rfl rfl ?_
          refine Sx.skip rfl rfl rfl rfl rfl rfl ?_
          refine Sx.skip rfl rfl rfl rfl rfl rfl ?_
          refine Sx.skip rfl rfl rfl rfl rfl rfl ?_
          refine Sx.calm rfl rfl (Cm.pick_t rfl rfl) rfl ?_
          refine Sx.nil ?_
          refine At.weak [(0, _), (1, _), (4, _), (5, _), (6, _), (14, _), (41, _)] ⟨rfl, rfl, rfl, rfl, rfl, rfl, rfl, trivial⟩ ?_
          refine At.go ?_
          refine Sc.cond_t rfl ?_
          refine Sc.seq ?_
          refine Sc.draw 14 (fun H => H[p]? = some (.cells [.slice ao L.flatten.length c, .slice bo (offs 0 L).length c'].toArray 61 (0, 0))) [10, 11, 14] [0, 1, 2, 3, 4, 5, 6, 7, 8, 9, 10, 11, 12, 13, 14] mixed (by kernel_rfl) (hobj) ?_
          refine Sx.calm rfl rfl (Cm.move rfl) rfl ?_
          refine Sx.calm rfl rfl (Cm.move rfl) rfl ?_
          refine Sx.calm rfl rfl (Cm.nilCheck rfl) rfl ?_
          refine Sx.calm rfl rfl (Cm.field fld61_1 rfl) rfl ?_
          refine Sx.calm rfl rfl (Cm.load sca35 rfl (fun H hH => cellF hH rfl)) rfl ?_
          refine Sx.calm rfl rfl (Cm.move rfl) rfl ?_
          refine Sx.calm rfl rfl (Cm.nilCheck rfl) rfl ?_
          refine Sx.calm rfl rfl (Cm.field fld61_0 rfl) rfl ?_
          refine Sx.calm rfl rfl (Cm.load sca30 rfl (fun H hH => cellF hH rfl)) rfl ?_
          refine Sx.calm rfl rfl (Cm.len sl30 rfl) rfl ?_
          refine Sx.eff rfl rfl (Sl.lit1 (enc := inN) (u := L.flatten.length) sl35 rfl rfl rfl ?_)
          intro w1 ho1 hs1 hf1
          refine Sx.on (by exact hf1.obj hobj (fun h => h)) ?_
          refine Sx.eff rfl rfl (Sl.append inN_one sl35 rfl rfl (hbeg.grow hf1.undraw.undraw) ho1.vw (by simp only [List.length_singleton]; omega) (by simp only [List.length_singleton]; unfold maxLen; omega) rfl ?_)
          intro bo2 c2 w2 ho2 hf2 hr2 hn2
          refine Sx.on (by exact hf2.obj (hf1.obj hobj (fun h => h)) hbp) ?_
          refine Sx.calm rfl rfl (Cm.nilCheck rfl) rfl ?_
          refine Sx.calm rfl rfl (Cm.field fld61_1 rfl) rfl ?_
          refine Sx.eff rfl rfl (Sl.store sca35 rfl rfl rfl (hf2.obj (hf1.obj hobj (fun h => h)) hbp) rfl ?_)
          intro w3 hg3 hs3 hf3
          refine Sx.last rfl ?_
          refine Sx.nil ?_
          refine At.weak [(0, _), (1, _), (4, _), (5, _), (6, _), (14, _), (41, _)] ⟨rfl, rfl, rfl, rfl, rfl, rfl, rfl, trivial⟩ ?_
          refine At.go ?_
          refine Sc.region ?_
          refine Sl.calm (Cm.move rfl) rfl ?_
          refine Sl.calm (Cm.add64 rfl rfl (by omega)) rfl ?_
          refine Sl.calm (Cm.assign rfl) rfl ?_
          refine Sl.nil ?_
          have hg : badT t = false := badT_no (by omega)
          first
            | (have hnew : newL L t = L ++ [[]] := newL_new L t (by first | (left; exact List.eq_nil_of_length_eq_zero (by omega)) | (right; omega))
               refine At.cut () ⟨rfl, rfl, congrArg (fun z : Int => some (Value.int .i64 z)) (by rw [hnew, List.length_append]; simp [hol]), trivial⟩ ?_
               exact ⟨hg, by rw [hnew]; exact add_mid hD hrow hap hap1 hbp hDp hDa hDb hf1.undraw.undraw ho2 hf2 hr2 hg3 hf3⟩)
            | (have hold : newL L t = L := newL_old L t hne (by omega)
               refine At.cut () ⟨rfl, rfl, congrArg (fun z : Int => some (Value.int .i64 z)) (by rw [hold, hol]), trivial⟩ ?_
               exact ⟨hg, by rw [hold]; exact (AddPost.same hPP hD).draws 1⟩)
        ·
          refine Sx.calm rfl rfl (Cm.move rfl) rfl ?_
          refine Sx.want rfl rfl rfl rfl (Cm.move rfl) rfl ?_
          refine Sx.want rfl rfl rfl rfl (Cm.nilCheck rfl) rfl ?_
          refine Sx.want rfl rfl rfl rfl (Cm.field fld61_0 rfl) rfl ?_
          refine Sx.want rfl rfl rfl rfl (Cm.ld sca30 rfl (cellF hobj rfl)) rfl ?_
          refine Sx.want rfl rfl rfl rfl (Cm.len sl30 rfl) rfl ?_
          refine Sx.want rfl rfl rfl rfl (Cm.move rfl) rfl ?_
          refine Sx.want rfl rfl rfl rfl (Cm.nilCheck rfl) rfl ?_
          refine Sx.want rfl rfl rfl rfl (Cm.field fld61_1 rfl) rfl ?_
          refine Sx.want rfl rfl rfl rfl (Cm.ld sca35 rfl (cellF hobj rfl)) rfl ?_
          refine Sx.want rfl rfl rfl rfl (Cm.move rfl) rfl ?_
          refine Sx.want rfl rfl rfl rfl (Cm.sub64 rfl rfl (by omega)) rfl ?_
          refine Sx.want rfl rfl rfl rfl (Cm.indexAddr1 sl35 rfl rfl hbeg.vw.non (by omega)) rfl ?_
          have hne : L ≠ [] := by intro e; subst e; simp [offs] at h21
          have hlast := offs_last_add L hne
          refine Sx.want rfl rfl rfl rfl (Cm.ld sca3 rfl (hbeg.vw.gz 0 (L.length - 1) (by omega) (by omega))) rfl ?_
          refine Sx.want rfl rfl rfl rfl (Cm.sub64 rfl rfl (by omega)) rfl ?_
          refine Sx.want rfl rfl rfl rfl (Cm.move rfl) rfl ?_
          refine Sx.want rfl rfl rfl rfl (Cm.len sl30 rfl) rfl ?_
          refine Sx.want rfl rfl rfl rfl (Cm.add64 rfl rfl (by omega)) rfl ?_
          refine Sx.forkWant rfl rfl rfl rfl (Cm.gtr rfl rfl) rfl (fun h40 => ?_) (fun h40 => ?_)
          ·
            refine Sx.calm rfl rfl (Cm.pick_f rfl rfl) rfl ?_
            refine Sx.nil ?_
            refine At.weak [(0, _), (1, _), (4, _), (5, _), (6, _), (14, _), (41, _)] ⟨rfl, rfl, rfl, rfl, rfl, rfl, rfl, trivial⟩ ?_
            refine At.go ?_
            refine Sc.cond_t rfl ?_
            refine Sc.seq ?_
            refine Sc.draw 14 (fun H => H[p]? = some (.cells [.slice ao L.flatten.length c, .slice bo (offs 0 L).length c'].toArray 61 (0, 0))) [10, 11, 14] [0, 1, 2, 3, 4, 5, 6, 7, 8, 9, 10, 11, 12, 13, 14] mixed (by kernel_rfl) (hobj) ?_
            refine Sx.calm rfl rfl (Cm.move rfl) rfl ?_
            refine Sx.calm rfl rfl (Cm.move rfl) rfl ?_
            refine Sx.calm rfl rfl (Cm.nilCheck rfl) rfl ?_
            refine Sx.calm rfl rfl (Cm.field fld61_1 rfl) rfl ?_
            refine Sx.calm rfl rfl (Cm.load sca35 rfl (fun H hH => cellF hH rfl)) rfl ?_
            refine Sx.calm rfl rfl (Cm.move rfl) rfl ?_
            refine Sx.calm rfl rfl (Cm.nilCheck rfl) rfl ?_
            refine Sx.calm rfl rfl (Cm.field fld61_0 rfl) rfl ?_
            refine Sx.calm rfl rfl (Cm.load sca30 rfl (fun H hH => cellF hH rfl)) rfl ?_
            refine Sx.calm rfl rfl (Cm.len sl30 rfl) rfl ?_
            refine Sx.eff rfl rfl (Sl.lit1 (enc := inN) (u := L.flatten.length) sl35 rfl rfl rfl ?_)
            intro w1 ho1 hs1 hf1
            refine Sx.on (by exact hf1.obj hobj (fun h => h)) ?_
            refine Sx.eff rfl rfl (Sl.append inN_one sl35 rfl rfl (hbeg.grow hf1.undraw.undraw) ho1.vw (by simp only [List.length_singleton]; omega) (by simp only [List.length_singleton]; unfold maxLen; omega) rfl ?_)
            intro bo2 c2 w2 ho2 hf2 hr2 hn2
            refine Sx.on (by exact hf2.obj (hf1.obj hobj (fun h => h)) hbp) ?_
            refine Sx.calm rfl rfl (Cm.nilCheck rfl) rfl ?_
            refine Sx.calm rfl rfl (Cm.field fld61_1 rfl) rfl ?_
            refine Sx.eff rfl rfl (Sl.store sca35 rfl rfl rfl (hf2.obj (hf1.obj hobj (fun h => h)) hbp) rfl ?_)
            intro w3 hg3 hs3 hf3
            refine Sx.last rfl ?_
            refine Sx.nil ?_
            refine At.weak [(0, _), (1, _), (4, _), (5, _), (6, _), (14, _), (41, _)] ⟨rfl, rfl, rfl, rfl, rfl, rfl, rfl, trivial⟩ ?_
            refine At.go ?_
            refine Sc.region ?_
            refine Sl.calm (Cm.move rfl) rfl ?_
            refine Sl.calm (Cm.add64 rfl rfl (by omega)) rfl ?_
            refine Sl.calm (Cm.assign rfl) rfl ?_
            refine Sl.nil ?_
            have hg : badT t = false := badT_no (by omega)
            first
              | (have hnew : newL L t = L ++ [[]] := newL_new L t (by first | (left; exact List.eq_nil_of_length_eq_zero (by omega)) | (right; omega))
                 refine At.cut () ⟨rfl, rfl, congrArg (fun z : Int => some (Value.int .i64 z)) (by rw [hnew, List.length_append]; simp [hol]), trivial⟩ ?_
                 exact ⟨hg, by rw [hnew]; exact add_mid hD hrow hap hap1 hbp hDp hDa hDb hf1.undraw.undraw ho2 hf2 hr2 hg3 hf3⟩)
              | (have hold : newL L t = L := newL_old L t hne (by omega)
                 refine At.cut () ⟨rfl, rfl, congrArg (fun z : Int => some (Value.int .i64 z)) (by rw [hold, hol]), trivial⟩ ?_
                 exact ⟨hg, by rw [hold]; exact (AddPost.same hPP hD).draws 1⟩)
          ·
            refine Sx.calm rfl rfl (Cm.pick_f rfl rfl) rfl ?_
            refine Sx.nil ?_
            refine At.weak [(0, _), (1, _), (4, _), (5, _), (6, _), (14, _), (41, _)] ⟨rfl, rfl, rfl, rfl, rfl, rfl, rfl, trivial⟩ ?_
            refine At.go ?_
            refine Sc.cond_f rfl ?_
            refine Sc.skip ?_
            have hg : badT t = false := badT_no (by omega)
            first
              | (have hnew : newL L t = L ++ [[]] := newL_new L t (by first | (left; exact List.eq_nil_of_length_eq_zero (by omega)) | (right; omega))
                 refine At.cut () ⟨rfl, rfl, congrArg (fun z : Int => some (Value.int .i64 z)) (by rw [hnew, List.length_append]; simp [hol]), trivial⟩ ?_
                 exact ⟨hg, by rw [hnew]; exact add_mid hD hrow hap hap1 hbp hDp hDa hDb hf1.undraw.undraw ho2 hf2 hr2 hg3 hf3⟩)
              | (have hold : newL L t = L := newL_old L t hne (by omega)
                 refine At.cut () ⟨rfl, rfl, congrArg (fun z : Int => some (Value.int .i64 z)) (by rw [hold, hol]), trivial⟩ ?_
                 exact ⟨hg, by rw [hold]; exact (AddPost.same hPP hD).draws 1⟩)
      ·
        rintro _ w1 ⟨hgood, D1, hP1, hD1, hD2, hF⟩
        obtain ⟨ao, c, bo, c', hobj, hrow, hbeg, hap, hap1, hbp, hDp, hDa, hDb⟩ := hP1
        have hol := offs_length 0 (newL L t)
        have hne := newL_ne L t
        have hpos : 0 < (newL L t).length := List.length_pos_iff.2 hne
        have hlast := offs_last_add (newL L t) hne
        have hnl := newL_len L t
        have hnf := newL_flatten L t
        have hnfl : (newL L t).flatten.length = L.flatten.length := by rw [hnf]
        have hgood' : 1 ≤ t.length ∧ t.length < 128 := badT_inv hgood
        refine Sc.seq ?_
        refine Sc.quiet 15 [0, 1, 2, 3, 4, 5, 6, 7, 8, 9, 10, 11, 12, 13, 14] mixed (by kernel_rfl) ?_
        refine Sx.calm rfl rfl (Cm.move rfl) rfl ?_
        refine Sx.calm rfl rfl (Cm.nilCheck rfl) rfl ?_
        refine Sx.calm rfl rfl (Cm.field fld61_0 rfl) rfl ?_
        refine Sx.calm rfl rfl (Cm.ld sca30 rfl (cellF hobj rfl)) rfl ?_
        refine Sx.calm rfl rfl (Cm.len sl30 rfl) rfl ?_
        refine Sx.calm rfl rfl (Cm.move rfl) rfl ?_
        refine Sx.calm rfl rfl (Cm.nilCheck rfl) rfl ?_
        refine Sx.calm rfl rfl (Cm.field fld61_1 rfl) rfl ?_
        refine Sx.calm rfl rfl (Cm.ld sca35 rfl (cellF hobj rfl)) rfl ?_
        refine Sx.calm rfl rfl (Cm.move rfl) rfl ?_
        refine Sx.calm rfl rfl (Cm.sub64 rfl rfl (by omega)) rfl ?_
        refine Sx.calm rfl rfl (Cm.indexAddr1 sl35 rfl rfl hbeg.vw.non (by omega)) rfl ?_
        refine Sx.calm rfl rfl (Cm.ld sca3 rfl (hbeg.vw.gz 0 ((newL L t).length - 1) (by omega) (by omega))) rfl ?_
        refine Sx.calm rfl rfl (Cm.sub64 rfl rfl (by omega)) rfl ?_
        refine Sx.calm rfl rfl (Cm.assign rfl) rfl ?_
        refine Sx.nil ?_
        refine At.weak [(0, _), (1, _), (5, _), (6, _)] ⟨rfl, rfl, rfl, rfl, trivial⟩ ?_
        refine At.go ?_
        refine Sc.seq ?_
        refine Sc.region ?_
        refine Sl.calm (Cm.move rfl) rfl ?_
        refine Sl.calm (Cm.move rfl) rfl ?_
        refine Sl.calm (Cm.nilCheck rfl) rfl ?_
        refine Sl.calm (Cm.field fld61_0 rfl) rfl ?_
        refine Sl.calm (Cm.ld sca30 rfl (cellF hobj rfl)) rfl ?_
        refine Sl.calm (Cm.move rfl) rfl ?_
        refine Sl.append b8_one sl30 rfl rfl hrow (hv.keep (hF.draws 1) (hvD (by intro e; rw [e] at hgood'; simp at hgood'))) (by omega) (by unfold maxLen; omega) rfl ?_
        intro ao3 c3 w3 ho3 hf3 hr3 hn3
        refine Sl.calm (Cm.nilCheck rfl) rfl ?_
        refine Sl.calm (Cm.field fld61_0 rfl) rfl ?_
        refine Sl.store sca30 rfl rfl rfl (hf3.obj hobj hap1) rfl ?_
        intro w4 hg4 hs4 hf4
        refine Sl.nil ?_
        refine At.weak [(0, _), (1, _), (5, _), (6, _)] ⟨rfl, rfl, rfl, rfl, trivial⟩ ?_
        refine At.go ?_
        refine Sc.seq ?_
        refine Sc.region ?_
        refine Sl.calm (Cm.move rfl) rfl ?_
        refine Sl.calm (Cm.move rfl) rfl ?_
        refine Sl.calm (Cm.assign rfl) rfl ?_
        refine Sl.calm (Cm.assign rfl) rfl ?_
        refine Sl.nil ?_
        refine At.weak [(0, _), (1, _), (4, _), (5, _), (6, _)] ⟨rfl, rfl, rfl, rfl, rfl, trivial⟩ ?_
        refine At.go ?_
        refine Sc.ret ?_
        refine At.ret2 rfl rfl rfl ?_
        have e : addL L t = (pushLast (newL L t) t, (newL L t).length, ((newL L t).getLast?.getD []).length) := by simp [addL, hgood]
        refine ⟨_, rfl, ?_, ?_⟩
        · rw [e]; exact tup2 rfl (by show _ = ((((newL L t).getLast?.getD []).length : Nat) : Int); omega)
        · rw [e]; exact add_end hne hD1 hD2 hF hbeg hap hap1 hbp hDp hDa hDb ho3 hf3.undraw hr3 hg4 hf4
end Go.Proofs.Ytapmfoogjkdffaa
