/- tree: Clone at four types; a store into a field of an element. No condition beyond the bounds that each states. -/
import Derived.Test.YtpnfjfbfgaiolaaTrT
namespace Go.Proofs.Ytpnfjfbfgaiolaa
open Go Go.RowKit Go.Maps
set_option linter.unusedVariables false

theorem flatMap_set {α : Type} {K j : Nat} {enc : α → List Value} (hk : ∀ x, (enc x).length = K) (hj : j < K) {v : Value} {x' : α} : ∀ (xs : List α) (i : Nat) (y : α), xs[i]? = some y → enc x' = (enc y).set j v → (xs.set i x').flatMap enc = (xs.flatMap enc).set (i * K + j) v
  | [], i, y, h, _ => by simp at h
  | z :: r, 0, y, h, he => by
    simp at h; subst h
    rw [List.set_cons_zero, List.flatMap_cons, List.flatMap_cons, he, List.set_append, if_pos (by rw [hk]; omega), Nat.zero_mul, Nat.zero_add]
  | z :: r, i + 1, y, h, he => by
    have ih := flatMap_set hk hj r i y (by simpa using h) he
    have e1 : (i + 1) * K + j = K + (i * K + j) := by rw [Nat.add_mul]; omega
    rw [List.set_cons_succ, List.flatMap_cons, List.flatMap_cons, ih, List.set_append, if_neg (by rw [hk]; omega), hk, e1, Nat.add_sub_cancel_left]
section
variable {P : Program} {N : Nt} {Q : Exit → Act → World → Prop} {l : SF} {w : World} {ops : Array Oper} {rest : List Oper} {ty : TypeId} {pos : String} {aft : Array Edge} {x y : Operand} {t : TypeId} {v : Value}
theorem Sl.storeF {α : Type} {K : Nat} {enc : α → List Value} (henc : CellsM K enc) {T : TypeId} {ao : Option Addr} {cap : Nat} {xs : List α} {i j : Nat} {x' x0 : α} {ad : Addr} (hi : xs[i]? = some x0) (hj : j < K) (he : enc x' = (enc x0).set j v)
    (ht : scaB P t = true) (hx : evL l x = some (.pointer (some ad))) (had : ad = (adr ao (i * K)).add j) (hy : evL l y = some v) (h1 : v.oneCell' = true) (ho : OwnM K enc T w.heap ao cap xs)
    (h : ∀ w', OwnM K enc T w'.heap ao cap (xs.set i x') → w'.heap.size = w.heap.size → Foot (blk ao) w w' → Sl P N ops Q rest l w') :
    Sl P N ops Q (⟨none, .store t x y, ty, pos, aft, none⟩ :: rest) l w := by
  have hil := (List.getElem?_eq_some_iff.1 hi).1
  rcases ho with ⟨rfl, rfl, rfl⟩ | ⟨g, cur, rfl, hg, g1, g2, g3, g4⟩
  · simp at hil
  · have hK : xs.length * K ≤ cap * K := Nat.mul_le_mul_right K g1
    have hiK : (i + 1) * K ≤ xs.length * K := Nat.mul_le_mul_right K (by omega)
    have hlt : i * K + j < cur.toList.length := by rw [Array.length_toList, g3]; rw [Nat.add_mul, Nat.one_mul] at hiK; omega
    have hadr : ad = ⟨g, i * K + j, none⟩ := by
      rw [had]
      show ((⟨g, 0, none⟩ : Addr).add (i * K)).add j = _
      rw [Addr.add_add, Addr.add_lit, Nat.zero_add]
    subst hadr
    refine Sl.store (cur := cur.toList) ht hx hy h1 (by simpa using hg) (by simpa [Nat.blt_eq] using hlt) (fun w' q1 q2 q3 => h w' ?_ q2 ?_)
    · refine .inr ⟨g, _, rfl, q1, by simpa using g1, g2, by simpa using g3, ?_⟩
      rw [List.length_set, flatMap_set (fun x => (henc x).1) hj xs i x0 hi he, ← g4]
      simp only [List.take_set]
    · exact q3.mono (fun k e => ⟨⟨g, 0, none⟩, rfl, e.symm⟩)
end
theorem fr_at2 (n : Nat) : Fr n (some ⟨n, 0, none⟩) := fun a ha => by cases ha; exact Nat.le_refl _
theorem cloneS_ok (ao : Option Addr) (c : Nat) (L : List (List UInt8)) (W : World) (hv : Vw strE W.heap ao c L) (hl : L.length ≤ 1024) :
    Calls Try.prog 49 [.slice ao L.length c].toArray W (Ret fun v w' => ∃ o c', v = .slice o L.length c' ∧ Own strE 9 w'.heap o c' L ∧ Fr W.heap.size o ∧ Foot nob W w') := by
  refine calls_of_sc 8 [(0, _)] Try.func49 rfl rfl rfl (enter_slots ⟨rfl, trivial⟩) ?_
  refine Sc.seq ?_
  refine Sc.region ?_
  refine Sl.calm (Cm.assign rfl) rfl ?_
  refine Sl.nil ?_
  refine At.go ?_
  refine Sc.seq ?_
  refine Sc.seq ?_
  refine Sc.region ?_
  refine Sl.calm (Cm.move rfl) rfl ?_
  refine Sl.fork (Cm.ofBool (Cm.eqlSlNil sl28 rfl rfl)) rfl (fun h4 => ?_) (fun h4 => ?_)
  ·
    refine Sl.nil ?_
    refine At.weak [(0, _), (2, _), (4, _)] ⟨rfl, rfl, rfl, trivial⟩ ?_
    refine At.go ?_
    refine Sc.cond_t rfl ?_
    refine Sc.seq ?_
    refine Sc.region ?_
    refine Sl.calm (Cm.assign rfl) rfl ?_
    refine Sl.nil ?_
    refine At.go ?_
    refine Sc.ret ?_
    refine At.then_ret ?_
    refine At.ret1 rfl rfl ?_
    obtain rfl : L = [] := by
      apply Classical.byContradiction
      intro hne
      have h0 : ao = none := by simpa using h4
      exact hv.non (by have := List.length_pos_iff.2 hne; omega) h0
    exact ⟨_, rfl, none, 0, rfl, .inl ⟨rfl, rfl, rfl⟩, Fr.none, Foot.refl _ _⟩
  ·
    refine Sl.nil ?_
    refine At.weak [(0, _), (2, _), (4, _)] ⟨rfl, rfl, rfl, trivial⟩ ?_
    refine At.go ?_
    refine Sc.cond_f rfl ?_
    refine Sc.skip ?_
    refine At.go ?_
    refine Sc.seq ?_
    refine Sc.region ?_
    refine Sl.lit0 strE sl28 rfl ?_
    intro w1 ho1 hs1 hf1
    refine Sl.calm (Cm.move rfl) rfl ?_
    refine Sl.append strE_one sl28 rfl rfl ho1 (hv.grow hf1) (by simp only [List.length_nil]; omega) (by simp only [List.length_nil]; unfold maxLen; omega) rfl ?_
    intro o2 c2 w2 ho2 hf2 hr2 hn2
    rw [List.nil_append] at ho2 ⊢
    refine Sl.calm (Cm.assign rfl) rfl ?_
    refine Sl.nil ?_
    refine At.weak [(0, _), (2, _), (4, _)] ⟨rfl, rfl, rfl, trivial⟩ ?_
    refine At.go ?_
    refine Sc.ret ?_
    refine At.ret1 rfl rfl ?_
    exact ⟨_, rfl, o2, c2, rfl, ho2, fr_app (fr_at2 _) hr2 hf1.size, hf1.trans_to hf2 (fr_at2 _).step⟩
theorem cloneB_ok (ao : Option Addr) (c : Nat) (L : List UInt8) (W : World) (hv : Vw b8 W.heap ao c L) (hl : L.length ≤ 10000) :
    Calls Try.prog 50 [.slice ao L.length c].toArray W (Ret fun v w' => ∃ o c', v = .slice o L.length c' ∧ Own b8 5 w'.heap o c' L ∧ Fr W.heap.size o ∧ Foot nob W w') := by
  refine calls_of_sc 8 [(0, _)] Try.func50 rfl rfl rfl (enter_slots ⟨rfl, trivial⟩) ?_
  refine Sc.seq ?_
  refine Sc.region ?_
  refine Sl.calm (Cm.assign rfl) rfl ?_
  refine Sl.nil ?_
  refine At.go ?_
  refine Sc.seq ?_
  refine Sc.seq ?_
  refine Sc.region ?_
  refine Sl.calm (Cm.move rfl) rfl ?_
  refine Sl.fork (Cm.ofBool (Cm.eqlSlNil sl31 rfl rfl)) rfl (fun h4 => ?_) (fun h4 => ?_)
  ·
    refine Sl.nil ?_
    refine At.weak [(0, _), (2, _), (4, _)] ⟨rfl, rfl, rfl, trivial⟩ ?_
    refine At.go ?_
    refine Sc.cond_t rfl ?_
    refine Sc.seq ?_
    refine Sc.region ?_
    refine Sl.calm (Cm.assign rfl) rfl ?_
    refine Sl.nil ?_
    refine At.go ?_
    refine Sc.ret ?_
    refine At.then_ret ?_
    refine At.ret1 rfl rfl ?_
    obtain rfl : L = [] := by
      apply Classical.byContradiction
      intro hne
      have h0 : ao = none := by simpa using h4
      exact hv.non (by have := List.length_pos_iff.2 hne; omega) h0
    exact ⟨_, rfl, none, 0, rfl, .inl ⟨rfl, rfl, rfl⟩, Fr.none, Foot.refl _ _⟩
  ·
    refine Sl.nil ?_
    refine At.weak [(0, _), (2, _), (4, _)] ⟨rfl, rfl, rfl, trivial⟩ ?_
    refine At.go ?_
    refine Sc.cond_f rfl ?_
    refine Sc.skip ?_
    refine At.go ?_
    refine Sc.seq ?_
    refine Sc.region ?_
    refine Sl.lit0 b8 sl31 rfl ?_
    intro w1 ho1 hs1 hf1
    refine Sl.calm (Cm.move rfl) rfl ?_
    refine Sl.append b8_one sl31 rfl rfl ho1 (hv.grow hf1) (by simp only [List.length_nil]; omega) (by simp only [List.length_nil]; unfold maxLen; omega) rfl ?_
    intro o2 c2 w2 ho2 hf2 hr2 hn2
    rw [List.nil_append] at ho2 ⊢
    refine Sl.calm (Cm.assign rfl) rfl ?_
    refine Sl.nil ?_
    refine At.weak [(0, _), (2, _), (4, _)] ⟨rfl, rfl, rfl, trivial⟩ ?_
    refine At.go ?_
    refine Sc.ret ?_
    refine At.ret1 rfl rfl ?_
    exact ⟨_, rfl, o2, c2, rfl, ho2, fr_app (fr_at2 _) hr2 hf1.size, hf1.trans_to hf2 (fr_at2 _).step⟩
theorem cloneX_ok (ao : Option Addr) (c : Nat) (L : List (List UInt8 × Hd)) (W : World) (hv : VwM 2 encX W.heap ao c L) (hl : L.length ≤ 10000) :
    Calls Try.prog 51 [.slice ao L.length c].toArray W (Ret fun v w' => ∃ o c', v = .slice o L.length c' ∧ OwnM 2 encX 54 w'.heap o c' L ∧ Fr W.heap.size o ∧ Foot nob W w') := by
  refine calls_of_sc 8 [(0, _)] Try.func51 rfl rfl rfl (enter_slots ⟨rfl, trivial⟩) ?_
  refine Sc.seq ?_
  refine Sc.region ?_
  refine Sl.calm (Cm.assign rfl) rfl ?_
  refine Sl.nil ?_
  refine At.go ?_
  refine Sc.seq ?_
  refine Sc.seq ?_
  refine Sc.region ?_
  refine Sl.calm (Cm.move rfl) rfl ?_
  refine Sl.fork (Cm.ofBool (Cm.eqlSlNil sl32 rfl rfl)) rfl (fun h4 => ?_) (fun h4 => ?_)
  ·
    refine Sl.nil ?_
    refine At.weak [(0, _), (2, _), (4, _)] ⟨rfl, rfl, rfl, trivial⟩ ?_
    refine At.go ?_
    refine Sc.cond_t rfl ?_
    refine Sc.seq ?_
    refine Sc.region ?_
    refine Sl.calm (Cm.assign rfl) rfl ?_
    refine Sl.nil ?_
    refine At.go ?_
    refine Sc.ret ?_
    refine At.then_ret ?_
    refine At.ret1 rfl rfl ?_
    obtain rfl : L = [] := by
      apply Classical.byContradiction
      intro hne
      have h0 : ao = none := by simpa using h4
      exact hv.non (by have := List.length_pos_iff.2 hne; omega) h0
    exact ⟨_, rfl, none, 0, rfl, .inl ⟨rfl, rfl, rfl⟩, Fr.none, Foot.refl _ _⟩
  ·
    refine Sl.nil ?_
    refine At.weak [(0, _), (2, _), (4, _)] ⟨rfl, rfl, rfl, trivial⟩ ?_
    refine At.go ?_
    refine Sc.cond_f rfl ?_
    refine Sc.skip ?_
    refine At.go ?_
    refine Sc.seq ?_
    refine Sc.region ?_
    refine Sl.lit0M encX_cells sl32 rfl ?_
    intro w1 ho1 hs1 hf1
    refine Sl.calm (Cm.move rfl) rfl ?_
    refine Sl.appendM encX_cells rfl sl32 rfl rfl ho1 (hv.keep' hf1 (fun _ _ _ => id)) (by simp only [List.length_nil]; omega) (by simp only [List.length_nil]; unfold maxLen; omega) rfl ?_
    intro o2 c2 w2 ho2 hf2 hr2 hn2
    rw [List.nil_append] at ho2 ⊢
    refine Sl.calm (Cm.assign rfl) rfl ?_
    refine Sl.nil ?_
    refine At.weak [(0, _), (2, _), (4, _)] ⟨rfl, rfl, rfl, trivial⟩ ?_
    refine At.go ?_
    refine Sc.ret ?_
    refine At.ret1 rfl rfl ?_
    exact ⟨_, rfl, o2, c2, rfl, ho2, fr_app (fr_at2 _) hr2 hf1.size, hf1.trans_to hf2 (fr_at2 _).step⟩
theorem cloneN_ok (ao : Option Addr) (c : Nat) (L : List (NdH × Nd)) (W : World) (hv : VwM 10 encN W.heap ao c L) (hl : L.length ≤ 1024) :
    Calls Try.prog 46 [.slice ao L.length c].toArray W (Ret fun v w' => ∃ o c', v = .slice o L.length c' ∧ OwnM 10 encN 34 w'.heap o c' L ∧ Fr W.heap.size o ∧ Foot nob W w') := by
  refine calls_of_sc 8 [(0, _)] Try.func46 rfl rfl rfl (enter_slots ⟨rfl, trivial⟩) ?_
  refine Sc.seq ?_
  refine Sc.region ?_
  refine Sl.calm (Cm.assign rfl) rfl ?_
  refine Sl.nil ?_
  refine At.go ?_
  refine Sc.seq ?_
  refine Sc.seq ?_
  refine Sc.region ?_
  refine Sl.calm (Cm.move rfl) rfl ?_
  refine Sl.fork (Cm.ofBool (Cm.eqlSlNil sl22 rfl rfl)) rfl (fun h4 => ?_) (fun h4 => ?_)
  ·
    refine Sl.nil ?_
    refine At.weak [(0, _), (2, _), (4, _)] ⟨rfl, rfl, rfl, trivial⟩ ?_
    refine At.go ?_
    refine Sc.cond_t rfl ?_
    refine Sc.seq ?_
    refine Sc.region ?_
    refine Sl.calm (Cm.assign rfl) rfl ?_
    refine Sl.nil ?_
    refine At.go ?_
    refine Sc.ret ?_
    refine At.then_ret ?_
    refine At.ret1 rfl rfl ?_
    obtain rfl : L = [] := by
      apply Classical.byContradiction
      intro hne
      have h0 : ao = none := by simpa using h4
      exact hv.non (by have := List.length_pos_iff.2 hne; omega) h0
    exact ⟨_, rfl, none, 0, rfl, .inl ⟨rfl, rfl, rfl⟩, Fr.none, Foot.refl _ _⟩
  ·
    refine Sl.nil ?_
    refine At.weak [(0, _), (2, _), (4, _)] ⟨rfl, rfl, rfl, trivial⟩ ?_
    refine At.go ?_
    refine Sc.cond_f rfl ?_
    refine Sc.skip ?_
    refine At.go ?_
    refine Sc.seq ?_
    refine Sc.region ?_
    refine Sl.lit0M encN_cells sl22 rfl ?_
    intro w1 ho1 hs1 hf1
    refine Sl.calm (Cm.move rfl) rfl ?_
    refine Sl.appendM encN_cells rfl sl22 rfl rfl ho1 (hv.keep' hf1 (fun _ _ _ => id)) (by simp only [List.length_nil]; omega) (by simp only [List.length_nil]; unfold maxLen; omega) rfl ?_
    intro o2 c2 w2 ho2 hf2 hr2 hn2
    rw [List.nil_append] at ho2 ⊢
    refine Sl.calm (Cm.assign rfl) rfl ?_
    refine Sl.nil ?_
    refine At.weak [(0, _), (2, _), (4, _)] ⟨rfl, rfl, rfl, trivial⟩ ?_
    refine At.go ?_
    refine Sc.ret ?_
    refine At.ret1 rfl rfl ?_
    exact ⟨_, rfl, o2, c2, rfl, ho2, fr_app (fr_at2 _) hr2 hf1.size, hf1.trans_to hf2 (fr_at2 _).step⟩
end Go.Proofs.Ytpnfjfbfgaiolaa
