/- frag: New, Clone, Blocks, and the reference's Add. No condition beyond the bounds that each states. -/
import Derived.Test.YtapmfoogjkdffaaFrB
namespace Go.Proofs.Ytapmfoogjkdffaa
open Go Go.RowKit
set_option linter.unusedVariables false

theorem new_ok (W : World) : Calls Try.prog 16 [].toArray W
    (Ret fun v w' => v = .pointer (some ⟨W.heap.size, 0, none⟩) ∧ PackR (fun k => k = W.heap.size) w'.heap W.heap.size [] ∧ Foot nob W w' ∧ w'.heap.size = W.heap.size + 1) := by
  refine calls_of_sc 3 [] Try.func16 rfl rfl rfl (enter_slots trivial) ?_
  refine Sc.seq ?_
  refine Sc.region ?_
  refine Sl.calm (Cm.assign rfl) rfl ?_
  refine Sl.nil ?_
  refine At.go ?_
  refine Sc.seq ?_
  refine Sc.region ?_
  refine Sl.calm (Cm.build plc61 zc61 rfl rfl) rfl ?_
  refine Sl.box rfl rfl ?_
  intro w1 hg1 hs1 hf1
  refine Sl.calm (Cm.assign rfl) rfl ?_
  refine Sl.nil ?_
  refine At.weak [(0, _)] ⟨rfl, trivial⟩ ?_
  refine At.go ?_
  refine Sc.ret ?_
  refine At.ret1 rfl rfl ?_
  exact ⟨_, rfl, rfl, ⟨none, 0, none, 0, hg1, Own.nil, Own.nil, Ap.none_left, (fun ⟨a, h, _⟩ => by cases h), (fun ⟨a, h, _⟩ => by cases h), rfl, (fun k ⟨a, h, _⟩ => by cases h), (fun k ⟨a, h, _⟩ => by cases h)⟩, hf1, hs1⟩

def CloneB (W : World) (xs : List UInt8) : Value → World → Prop := fun v w' => ∃ ao' cap', v = .slice ao' xs.length cap' ∧ Own b8 5 w'.heap ao' cap' xs ∧ Fr W.heap.size ao' ∧ Foot nob W w'

theorem clone_nil (cap : Nat) (xs : List UInt8) (W : World) (hv : Vw b8 W.heap none cap xs) : Calls Try.prog 32 [.slice none xs.length cap].toArray W (Ret (CloneB W xs)) := by
  have hx : xs = [] := List.eq_nil_of_length_eq_zero (by
    rcases Nat.eq_zero_or_pos xs.length with h | h
    · exact h
    · exact absurd rfl (hv.non (by omega)))
  subst hx
  refine calls_of_sc 8 [(0, _)] Try.func32 rfl rfl rfl (enter_slots ⟨rfl, trivial⟩) ?_
  refine Sc.seq ?_
  refine Sc.region ?_
  refine Sl.calm (Cm.assign rfl) rfl ?_
  refine Sl.nil ?_
  refine At.go ?_
  refine Sc.seq ?_
  refine Sc.seq ?_
  refine Sc.region ?_
  refine Sl.calm (Cm.move rfl) rfl ?_
  refine Sl.calm (Cm.eqlSlNil sl30 rfl rfl) rfl ?_
  refine Sl.nil ?_
  refine At.weak [(0, _), (2, _), (4, _)] ⟨rfl, rfl, rfl, trivial⟩ ?_
  refine At.go ?_
  refine Sc.cond_t rfl ?_
  refine Sc.seq ?_
  refine Sc.region ?_
  refine Sl.calm (Cm.assign rfl) rfl ?_
  refine Sl.nil ?_
  refine At.go ?_
  refine Sc.ret ?_
  refine At.then_ret ?_
  refine At.ret1 rfl rfl ?_
  exact ⟨_, rfl, none, 0, rfl, Own.nil, Fr.none, Foot.refl _ _⟩
theorem clone_some (a : Addr) (cap : Nat) (xs : List UInt8) (W : World) (hv : Vw b8 W.heap (some a) cap xs) (hb : xs.length ≤ 140737488355328) : Calls Try.prog 32 [.slice (some a) xs.length cap].toArray W (Ret (CloneB W xs)) := by
  have hl := hv.len63
  refine calls_of_sc 8 [(0, _)] Try.func32 rfl rfl rfl (enter_slots ⟨rfl, trivial⟩) ?_
  refine Sc.seq ?_
  refine Sc.region ?_
  refine Sl.calm (Cm.assign rfl) rfl ?_
  refine Sl.nil ?_
  refine At.go ?_
  refine Sc.seq ?_
  refine Sc.seq ?_
  refine Sc.region ?_
  refine Sl.calm (Cm.move rfl) rfl ?_
  refine Sl.calm (Cm.eqlSlNil sl30 rfl rfl) rfl ?_
  refine Sl.nil ?_
  refine At.weak [(0, _), (2, _), (4, _)] ⟨rfl, rfl, rfl, trivial⟩ ?_
  refine At.go ?_
  refine Sc.cond_f rfl ?_
  refine Sc.skip ?_
  refine At.go ?_
  refine Sc.seq ?_
  refine Sc.region ?_
  refine Sl.lit0 b8 sl30 rfl ?_
  intro w1 ho1 hs1 hf1
  refine Sl.calm (Cm.move rfl) rfl ?_
  refine Sl.append b8_one sl30 rfl rfl ho1 (hv.grow hf1) (by simp only [List.length_nil]; omega) (by simp only [List.length_nil]; unfold maxLen; omega) rfl ?_
  intro ao2 c2 w2 ho2 hf2 hr2 hn2
  refine Sl.calm (Cm.assign rfl) rfl ?_
  refine Sl.nil ?_
  refine At.weak [(0, _), (2, _), (4, _)] ⟨rfl, rfl, rfl, trivial⟩ ?_
  refine At.go ?_
  refine Sc.ret ?_
  refine At.ret1 rfl rfl ?_
  have hfr : Fr W.heap.size (some (⟨W.heap.size, 0, none⟩ : Addr)) := fun a ha => by cases ha; exact Nat.le_refl _
  refine ⟨_, rfl, ao2, c2, rfl, ho2, fun a ha => ?_, hf1.trans_to hf2 hfr.step⟩
  rcases hr2 a ha with h | h
  · exact hfr a h
  · have := hf1.size; omega
theorem clone_ok (ao : Option Addr) (cap : Nat) (xs : List UInt8) (W : World) (hv : Vw b8 W.heap ao cap xs) (hb : xs.length ≤ 140737488355328) : Calls Try.prog 32 [.slice ao xs.length cap].toArray W (Ret (CloneB W xs)) := by
  cases ao with
  | none => exact clone_nil cap xs W hv
  | some a => exact clone_some a cap xs W hv hb

/-! Blocks -/
theorem offs_at (L : List (List UInt8)) : ∀ (b k : Nat), k < L.length → (offs b L).getD k 0 = b + (L.take k).flatten.length := by
  induction L with
  | nil => intro b k h; simp at h
  | cons x r ih =>
    intro b k h
    cases k with
    | zero => simp [offs]
    | succ k =>
      have := ih (b + x.length) k (by simpa using h)
      simp only [offs, List.getD_cons_succ, this, List.take_succ_cons, List.flatten_cons, List.length_append]; omega
theorem flatten_take_succ (L : List (List UInt8)) (k : Nat) (h : k < L.length) : (L.take (k + 1)).flatten.length = (L.take k).flatten.length + (L.getD k []).length := by
  rw [List.take_succ_eq_append_getElem h, List.flatten_append, List.length_append]; simp [List.getD, h]
theorem flatten_cut (L : List (List UInt8)) (k : Nat) (h : k < L.length) : (L.flatten.drop (L.take k).flatten.length).take (L.getD k []).length = L.getD k [] := by
  have e : L = L.take k ++ (L.getD k [] :: L.drop (k + 1)) := by
    conv => lhs; rw [← List.take_append_drop k L]
    rw [List.drop_eq_getElem_cons h]; simp [List.getD, h]
  have e2 : L.flatten = (L.take k).flatten ++ (L.getD k [] ++ (L.drop (k + 1)).flatten) := by
    conv => lhs; rw [e]
    simp
  rw [e2, List.drop_left, List.take_left]
theorem flatten_take_le (L : List (List UInt8)) (k : Nat) : (L.take k).flatten.length ≤ L.flatten.length := by
  conv => rhs; rw [← List.take_append_drop k L]
  rw [List.flatten_append, List.length_append]; omega

set_option maxHeartbeats 1000000 in
theorem blocks_ok (D : Nat → Prop) (p : Nat) (L : List (List UInt8)) (W : World) (hP : PackR D W.heap p L) (hb1 : L.flatten.length ≤ 1099511627776) (hb2 : L.length ≤ 1099511627776) :
    Calls Try.prog 19 [.pointer (some ⟨p, 0, none⟩)].toArray W
      (Ret fun v w' => ∃ ao' cap' hs', v = .slice ao' hs'.length cap' ∧ Own hd 30 w'.heap ao' cap' hs' ∧ RowsV (fun k => W.heap.size ≤ k) w'.heap hs' L ∧ Fr W.heap.size ao' ∧ Foot nob W w') := by
  obtain ⟨ao, c, bo, c', hobj, hrow, hbeg, hap, hap1, hbp, hDp, hDa, hDb⟩ := hP
  have hol := offs_length 0 L
  refine calls_of_sc 51 [(0, _)] Try.func19 rfl rfl rfl (enter_slots ⟨rfl, trivial⟩) ?_
  refine Sc.seq ?_
  refine Sc.region ?_
  refine Sl.calm (Cm.assign rfl) rfl ?_
  refine Sl.nil ?_
  refine At.go ?_
  refine Sc.seq ?_
  refine Sc.region ?_
  refine Sl.calm (Cm.assign rfl) rfl ?_
  refine Sl.nil ?_
  refine At.go ?_
  refine Sc.seq ?_
  refine Sc.region ?_
  refine Sl.calm (Cm.move rfl) rfl ?_
  refine Sl.calm (Cm.nilCheck rfl) rfl ?_
  refine Sl.calm (Cm.field fld61_0 rfl) rfl ?_
  refine Sl.calm (Cm.ld sca30 rfl (cellF hobj rfl)) rfl ?_
  refine Sl.call fn32 rfl (clone_ok ao c L.flatten W hrow.vw (by omega)) rfl ?_
  rintro _ w1 ⟨ro, rc, rfl, hro, hfro, hf1⟩
  refine Sl.calm (Cm.assign rfl) rfl ?_
  refine Sl.nil ?_
  refine At.weak [(0, _), (2, _), (3, _), (4, _)] ⟨rfl, rfl, rfl, rfl, trivial⟩ ?_
  refine At.go ?_
  refine Sc.seq ?_
  refine Sc.seq ?_
  refine Sc.region ?_
  refine Sl.calm (Cm.move rfl) rfl ?_
  refine Sl.calm (Cm.nilCheck rfl) rfl ?_
  refine Sl.calm (Cm.field fld61_1 rfl) rfl ?_
  refine Sl.calm (Cm.ld sca35 rfl (cellF (hf1.obj hobj (fun h => h)) rfl)) rfl ?_
  refine Sl.calm (Cm.len sl35 rfl) rfl ?_
  refine Sl.calm (Cm.move rfl) rfl ?_
  refine Sl.nil ?_
  refine At.weak [(0, _), (2, _), (3, _), (4, _), (16, _), (17, _), (18, _)] ⟨rfl, rfl, rfl, rfl, rfl, rfl, rfl, trivial⟩ ?_
  refine At.go ?_
  refine Sc.block ?_
  refine Sc.loop (β := Nat × Option Addr × Nat × List Hd) (fun ⟨k, go, gc, gs⟩ => [(0, .pointer (some ⟨p, 0, none⟩)), (3, .slice go gs.length gc), (4, .slice ro L.flatten.length rc), (16, .slice bo (offs 0 L).length c'), (17, .int .i64 (offs 0 L).length), (18, .int .i64 k)]) (fun ⟨k, go, gc, gs⟩ w => k ≤ L.length ∧ Own hd 30 w.heap go gc gs ∧ RowsV (blk ro) w.heap gs (L.take k) ∧ Own b8 5 w.heap ro rc L.flatten ∧ Ap ro go ∧ Fr W.heap.size go ∧ Foot nob W w) (fun ⟨k, go, gc, gs⟩ => L.length - k) (0, none, 0, []) ⟨rfl, rfl, rfl, rfl, rfl, rfl, trivial⟩ ⟨by omega, Own.nil, RowsV.nil, hro, Ap.none_right, Fr.none, hf1⟩ ?_
  rintro ⟨k, go, gc, gs⟩ w2 ⟨hk1, hog, hrg, hro2, hapg, hfg, hF⟩
  have hgl := hrg.1
  simp only [List.length_take] at hgl
  refine Sc.seq ?_
  refine Sc.region ?_
  refine Sl.fork (Cm.lss rfl rfl) rfl (fun h19 => ?_) (fun h19 => ?_)
  ·
    refine Sl.nil ?_
    refine At.go ?_
    refine Sc.seq ?_
    refine Sc.cond_t rfl ?_
    refine Sc.skip ?_
    refine At.go ?_
    refine Sc.seq ?_
    refine Sc.block ?_
    refine Sc.seq ?_
    refine Sc.region ?_
    refine Sl.calm (Cm.move rfl) rfl ?_
    have hkl : k < L.length := by omega
    have hat : cellH w2.heap (adr bo (k : Int).toNat) = some (inN (L.take k).flatten.length) := by have := (hbeg.grow hF).vw.gz 0 k (z := k) rfl (by omega); rwa [offs_at L 0 k hkl, Nat.zero_add] at this
    have hst := flatten_take_succ L k hkl
    have hle1 := flatten_take_le L (k + 1)
    refine Sl.calm (Cm.indexAddr1 sl35 rfl rfl hbeg.vw.non (by omega)) rfl ?_
    refine Sl.calm (Cm.ld sca3 rfl hat) rfl ?_
    refine Sl.calm (Cm.assign rfl) rfl ?_
    refine Sl.calm (Cm.assign rfl) rfl ?_
    refine Sl.nil ?_
    refine At.weak [(0, _), (3, _), (4, _), (5, _), (6, _), (16, _), (17, _), (18, _), (19, _)] ⟨rfl, rfl, rfl, rfl, rfl, rfl, rfl, rfl, rfl, trivial⟩ ?_
    refine At.go ?_
    refine Sc.seq ?_
    refine Sc.region ?_
    refine Sl.calm (Cm.move rfl) rfl ?_
    refine Sl.calm (Cm.len sl30 rfl) rfl ?_
    refine Sl.calm (Cm.assign rfl) rfl ?_
    refine Sl.nil ?_
    refine At.weak [(0, _), (3, _), (4, _), (5, _), (6, _), (7, _), (16, _), (17, _), (18, _), (19, _)] ⟨rfl, rfl, rfl, rfl, rfl, rfl, rfl, rfl, rfl, rfl, trivial⟩ ?_
    refine At.go ?_
    refine Sc.seq ?_
    refine Sc.seq ?_
    refine Sc.region ?_
    refine Sl.calm (Cm.move rfl) rfl ?_
    refine Sl.calm (Cm.add64 rfl rfl (by omega)) rfl ?_
    refine Sl.calm (Cm.move rfl) rfl ?_
    refine Sl.calm (Cm.nilCheck rfl) rfl ?_
    refine Sl.calm (Cm.field fld61_1 rfl) rfl ?_
    refine Sl.calm (Cm.ld sca35 rfl (cellF (hF.obj hobj (fun h => h)) rfl)) rfl ?_
    refine Sl.calm (Cm.len sl35 rfl) rfl ?_
    refine Sl.fork (Cm.lss rfl rfl) rfl (fun h32 => ?_) (fun h32 => ?_)
    ·
      refine Sl.nil ?_
      refine At.weak [(0, _), (3, _), (4, _), (5, _), (6, _), (7, _), (16, _), (17, _), (18, _), (19, _), (32, _)] ⟨rfl, rfl, rfl, rfl, rfl, rfl, rfl, rfl, rfl, rfl, rfl, trivial⟩ ?_
      refine At.go ?_
      refine Sc.cond_t rfl ?_
      refine Sc.region ?_
      refine Sl.calm (Cm.move rfl) rfl ?_
      refine Sl.calm (Cm.nilCheck rfl) rfl ?_
      refine Sl.calm (Cm.field fld61_1 rfl) rfl ?_
      refine Sl.calm (Cm.ld sca35 rfl (cellF (hF.obj hobj (fun h => h)) rfl)) rfl ?_
      refine Sl.calm (Cm.move rfl) rfl ?_
      refine Sl.calm (Cm.add64 rfl rfl (by omega)) rfl ?_
      have hend : cellH w2.heap (adr bo ((k : Int) + 1).toNat) = some (inN (L.take (k + 1)).flatten.length) := by have := (hbeg.grow hF).vw.gz 0 (k + 1) (z := (k : Int) + 1) rfl (by omega); rwa [offs_at L 0 (k + 1) (by omega), Nat.zero_add] at this
      refine Sl.calm (Cm.indexAddr1 sl35 rfl rfl hbeg.vw.non (by omega)) rfl ?_
      refine Sl.calm (Cm.ld sca3 rfl hend) rfl ?_
      refine Sl.calm (Cm.assign rfl) rfl ?_
      refine Sl.nil ?_
      refine At.weak [(0, _), (3, _), (4, _), (5, _), (6, _), (7, _), (16, _), (17, _), (18, _), (19, _), (32, _)] ⟨rfl, rfl, rfl, rfl, rfl, rfl, rfl, rfl, rfl, rfl, rfl, trivial⟩ ?_
      refine At.go ?_
      refine Sc.region ?_
      refine Sl.calm (Cm.move rfl) rfl ?_
      refine Sl.calm (Cm.move rfl) rfl ?_
      refine Sl.calm (Cm.move rfl) rfl ?_
      refine Sl.calm (Cm.move rfl) rfl ?_
      refine Sl.calm (Cm.move rfl) rfl ?_
      obtain ⟨E, hE, hE2⟩ : ∃ E, E = (L.take (k + 1)).flatten.length ∧ E = (L.take (k + 1)).flatten.length := ⟨_, rfl, rfl⟩
      have hrc := hro2.vw.le
      refine Sl.calm (Cm.sliceLHM sl30 rfl rfl rfl rfl (by omega) (by omega) (by omega)) rfl ?_
      refine Sl.lit1 (enc := hd) (u := ⟨cutAo ro (L.take (k + 1)).flatten.length (L.take k).flatten.length 1, (L.take (k + 1)).flatten.length - (L.take k).flatten.length, (L.take (k + 1)).flatten.length - (L.take k).flatten.length⟩) sl22 rfl rfl rfl ?_
      intro w3 ho3 hs3 hf3
      refine Sl.append hd_one sl22 rfl rfl (hog.grow hf3) ho3.vw (by simp only [List.length_singleton]; omega) (by simp only [List.length_singleton]; unfold maxLen; omega) rfl ?_
      intro ao4 c4 w4 ho4 hf4 hr4 hn4
      refine Sl.calm (Cm.assign rfl) rfl ?_
      refine Sl.nil ?_
      refine At.block_normal ?_
      refine At.weak [(0, _), (3, _), (4, _), (5, _), (6, _), (7, _), (16, _), (17, _), (18, _), (19, _), (32, _)] ⟨rfl, rfl, rfl, rfl, rfl, rfl, rfl, rfl, rfl, rfl, rfl, trivial⟩ ?_
      refine At.go ?_
      refine Sc.region ?_
      refine Sl.calm (Cm.add64 rfl rfl (by omega)) rfl ?_
      refine Sl.calm (Cm.move rfl) rfl ?_
      refine Sl.nil ?_
      refine At.again (k + 1, ao4, c4, gs ++ [⟨cutAo ro (L.take (k + 1)).flatten.length (L.take k).flatten.length 1, (L.take (k + 1)).flatten.length - (L.take k).flatten.length, (L.take (k + 1)).flatten.length - (L.take k).flatten.length⟩]) ⟨rfl, rfl, rfl, rfl, rfl, rfl, trivial⟩ ?_ (by show L.length - (k + 1) < L.length - k; omega)
      have hF4 : Foot nob W w4 := (hF.trans hf3).trans_to hf4 hfg.step
      have hnr : ∀ a, ro = some a → ¬ blk go a.block := fun a ha h => hapg.not a ha h
      refine ⟨by omega, ho4, ?_, (hro2.grow hf3).keep hf4 hnr, fun a b ha hb e => ?_, fun a ha => ?_, hF4⟩
      · have hrg4 : RowsV (blk ro) w4.heap gs (L.take k) := (hrg.keep hf3 (fun _ _ h => h)).keep hf4 (fun k' hk' => by obtain ⟨a, ha, rfl⟩ := hk'; exact hnr a ha)
        have hcut := ((hro2.grow hf3).keep hf4 hnr).vw.cut (l := (L.take k).flatten.length) (h := E) (m := E) (by omega) (by omega) (by omega) (by omega)
        have hEd : E - (L.take k).flatten.length = (L.getD k []).length := by omega
        have e : L.take (k + 1) = L.take k ++ [L.getD k []] := by rw [List.take_succ_eq_append_getElem hkl]; simp [List.getD, hkl]
        rw [hEd, flatten_cut L k hkl, hE] at hcut
        have hsn := hrg4.snoc (x := ⟨cutAo ro (L.take (k + 1)).flatten.length (L.take k).flatten.length 1, (L.take (k + 1)).flatten.length - (L.take k).flatten.length, (L.take (k + 1)).flatten.length - (L.take k).flatten.length⟩) (xs := L.getD k []) (by show (L.take (k + 1)).flatten.length - _ = _; omega) (by show Vw b8 _ (cutAo ro (L.take (k + 1)).flatten.length _ 1) ((L.take (k + 1)).flatten.length - _) _; rw [← hE, hEd, hE]; exact hcut) (fun _ k' hk' => blk_cut hk')
        exact (congrArg (RowsV (blk ro) w4.heap _) e).mpr hsn
      · rcases hr4 b hb with h | h
        · exact hapg a b ha h e
        · have := hro2.lt a ha; have := hf3.size; omega
      · rcases hr4 a ha with h | h
        · exact hfg a h
        · have := hF.size; have := hf3.size; omega
    ·
      refine Sl.nil ?_
      refine At.weak [(0, _), (3, _), (4, _), (5, _), (6, _), (7, _), (16, _), (17, _), (18, _), (19, _), (32, _)] ⟨rfl, rfl, rfl, rfl, rfl, rfl, rfl, rfl, rfl, rfl, rfl, trivial⟩ ?_
      refine At.go ?_
      refine Sc.cond_f rfl ?_
      refine Sc.skip ?_
      refine At.go ?_
      refine Sc.region ?_
      refine Sl.calm (Cm.move rfl) rfl ?_
      refine Sl.calm (Cm.move rfl) rfl ?_
      refine Sl.calm (Cm.move rfl) rfl ?_
      refine Sl.calm (Cm.move rfl) rfl ?_
      refine Sl.calm (Cm.move rfl) rfl ?_
      obtain ⟨E, hE, hE2⟩ : ∃ E, E = L.flatten.length ∧ E = (L.take (k + 1)).flatten.length := ⟨_, rfl, by rw [List.take_of_length_le (by omega)]⟩
      have hrc := hro2.vw.le
      refine Sl.calm (Cm.sliceLHM sl30 rfl rfl rfl rfl (by omega) (by omega) (by omega)) rfl ?_
      refine Sl.lit1 (enc := hd) (u := ⟨cutAo ro L.flatten.length (L.take k).flatten.length 1, L.flatten.length - (L.take k).flatten.length, L.flatten.length - (L.take k).flatten.length⟩) sl22 rfl rfl rfl ?_
      intro w3 ho3 hs3 hf3
      refine Sl.append hd_one sl22 rfl rfl (hog.grow hf3) ho3.vw (by simp only [List.length_singleton]; omega) (by simp only [List.length_singleton]; unfold maxLen; omega) rfl ?_
      intro ao4 c4 w4 ho4 hf4 hr4 hn4
      refine Sl.calm (Cm.assign rfl) rfl ?_
      refine Sl.nil ?_
      refine At.block_normal ?_
      refine At.weak [(0, _), (3, _), (4, _), (5, _), (6, _), (7, _), (16, _), (17, _), (18, _), (19, _), (32, _)] ⟨rfl, rfl, rfl, rfl, rfl, rfl, rfl, rfl, rfl, rfl, rfl, trivial⟩ ?_
      refine At.go ?_
      refine Sc.region ?_
      refine Sl.calm (Cm.add64 rfl rfl (by omega)) rfl ?_
      refine Sl.calm (Cm.move rfl) rfl ?_
      refine Sl.nil ?_
      refine At.again (k + 1, ao4, c4, gs ++ [⟨cutAo ro L.flatten.length (L.take k).flatten.length 1, L.flatten.length - (L.take k).flatten.length, L.flatten.length - (L.take k).flatten.length⟩]) ⟨rfl, rfl, rfl, rfl, rfl, rfl, trivial⟩ ?_ (by show L.length - (k + 1) < L.length - k; omega)
      have hF4 : Foot nob W w4 := (hF.trans hf3).trans_to hf4 hfg.step
      have hnr : ∀ a, ro = some a → ¬ blk go a.block := fun a ha h => hapg.not a ha h
      refine ⟨by omega, ho4, ?_, (hro2.grow hf3).keep hf4 hnr, fun a b ha hb e => ?_, fun a ha => ?_, hF4⟩
      · have hrg4 : RowsV (blk ro) w4.heap gs (L.take k) := (hrg.keep hf3 (fun _ _ h => h)).keep hf4 (fun k' hk' => by obtain ⟨a, ha, rfl⟩ := hk'; exact hnr a ha)
        have hcut := ((hro2.grow hf3).keep hf4 hnr).vw.cut (l := (L.take k).flatten.length) (h := E) (m := E) (by omega) (by omega) (by omega) (by omega)
        have hEd : E - (L.take k).flatten.length = (L.getD k []).length := by omega
        have e : L.take (k + 1) = L.take k ++ [L.getD k []] := by rw [List.take_succ_eq_append_getElem hkl]; simp [List.getD, hkl]
        rw [hEd, flatten_cut L k hkl, hE] at hcut
        have hsn := hrg4.snoc (x := ⟨cutAo ro L.flatten.length (L.take k).flatten.length 1, L.flatten.length - (L.take k).flatten.length, L.flatten.length - (L.take k).flatten.length⟩) (xs := L.getD k []) (by show L.flatten.length - _ = _; omega) (by show Vw b8 _ (cutAo ro L.flatten.length _ 1) (L.flatten.length - _) _; rw [← hE, hEd, hE]; exact hcut) (fun _ k' hk' => blk_cut hk')
        exact (congrArg (RowsV (blk ro) w4.heap _) e).mpr hsn
      · rcases hr4 b hb with h | h
        · exact hapg a b ha h e
        · have := hro2.lt a ha; have := hf3.size; omega
      · rcases hr4 a ha with h | h
        · exact hfg a h
        · have := hF.size; have := hf3.size; omega
  ·
    refine Sl.nil ?_
    refine At.go ?_
    refine Sc.seq ?_
    refine Sc.cond_f rfl ?_
    refine Sc.exit ?_
    refine At.then_exit ?_
    refine At.then_exit ?_
    refine At.block_hit ?_
    refine At.go ?_
    refine Sc.seq ?_
    refine Sc.region ?_
    refine Sl.calm (Cm.move rfl) rfl ?_
    refine Sl.calm (Cm.assign rfl) rfl ?_
    refine Sl.nil ?_
    refine At.weak [(0, _), (2, _), (3, _), (4, _), (16, _), (17, _), (18, _), (19, _)] ⟨rfl, rfl, rfl, rfl, rfl, rfl, rfl, rfl, trivial⟩ ?_
    refine At.go ?_
    refine Sc.ret ?_
    refine At.ret1 rfl rfl ?_
    have hkk : L.take k = L := List.take_of_length_le (by omega)
    rw [hkk] at hrg
    exact ⟨_, rfl, go, gc, gs, rfl, hog, hrg.mono (fun k h => by obtain ⟨a, ha, rfl⟩ := h; exact hfro a ha), hfg, hF⟩
end Go.Proofs.Ytapmfoogjkdffaa
