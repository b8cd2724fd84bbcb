/- table: IDs, the reference's; the laws. No condition beyond the bounds that each states. -/
import Derived.Test.YtoaplldahbbaiaaIdAk
namespace Go.Proofs.Ytoaplldahbbaiaa
open Go Go.RowKit Go.Maps
set_option linter.unusedVariables false

theorem i64_oneD (x : Int) : (i64 x).oneCell' = true := rfl
theorem rhas_ok (ao : Option Addr) (c : Nat) (L : List Int) (z : Int) (W : World) (hv : Vw i64 W.heap ao c L) :
    Calls Try.prog 69 [.slice ao L.length c, .int .i64 z].toArray W (Ret fun v w' => v = .bool (decide (z ∈ L)) ∧ w' = W) := by
  have hl := hv.len63
  refine calls_of_sc 18 [(0, _), (1, _)] Try.func69 rfl rfl rfl (enter_slots ⟨rfl, rfl, trivial⟩) ?_
  refine Sc.seq ?_
  refine Sc.region ?_
  refine Sl.calm (Cm.assign rfl) rfl ?_
  refine Sl.nil ?_
  refine At.go ?_
  refine Sc.seq ?_
  refine Sc.seq ?_
  refine Sc.region ?_
  refine Sl.calm (Cm.assign rfl) rfl ?_
  refine Sl.nil ?_
  refine At.go ?_
  refine Sc.block ?_
  refine Sc.loop (β := Nat) (fun i => [(0, .slice ao L.length c), (1, .int .i64 z), (5, .int .i64 i)]) (fun i w => i ≤ L.length ∧ (∀ j, j < i → L.getD j 0 ≠ z) ∧ w = W) (fun i => L.length - i) 0 ⟨rfl, rfl, rfl, trivial⟩ ⟨Nat.zero_le _, by intro j hj; omega, rfl⟩ ?_
  rintro i w2 ⟨hi, hz, hw2⟩
  subst hw2
  refine Sc.seq ?_
  refine Sc.seq ?_
  refine Sc.region ?_
  refine Sl.calm (Cm.move rfl) rfl ?_
  refine Sl.calm (Cm.move rfl) rfl ?_
  refine Sl.calm (Cm.len sl22 rfl) rfl ?_
  refine Sl.fork (Cm.lss rfl rfl) rfl (fun h9 => ?_) (fun h9 => ?_)
  ·
    refine Sl.nil ?_
    refine At.weak [(0, _), (1, _), (5, _), (9, _)] ⟨rfl, rfl, rfl, rfl, trivial⟩ ?_
    refine At.go ?_
    refine Sc.cond_t rfl ?_
    refine Sc.skip ?_
    refine At.go ?_
    refine Sc.seq ?_
    refine Sc.block ?_
    refine Sc.seq ?_
    refine Sc.region ?_
    refine Sl.calm (Cm.move rfl) rfl ?_
    refine Sl.calm (Cm.move rfl) rfl ?_
    refine Sl.calm (Cm.indexAddr1 sl22 rfl rfl hv.non (by omega)) rfl ?_
    refine Sl.calm (Cm.ld sca3 rfl (hv.gz 0 i rfl (by omega))) rfl ?_
    refine Sl.calm (Cm.move rfl) rfl ?_
    refine Sl.fork (Cm.eql rfl rfl) rfl (fun h17 => ?_) (fun h17 => ?_)
    ·
      have hin : z ∈ L := by have h17 : L.getD i 0 = z := h17; rw [← h17, List.getD, List.getElem?_eq_getElem (by omega)]; exact List.getElem_mem _
      refine Sl.nil ?_
      refine At.weak [(0, _), (1, _), (5, _), (9, _), (17, _)] ⟨rfl, rfl, rfl, rfl, rfl, trivial⟩ ?_
      refine At.go ?_
      refine Sc.cond_t rfl ?_
      refine Sc.seq ?_
      refine Sc.region ?_
      refine Sl.calm (Cm.assign rfl) rfl ?_
      refine Sl.nil ?_
      refine At.go ?_
      refine Sc.ret ?_
      refine At.block_ret ?_
      refine At.then_ret ?_
      refine At.then_ret ?_
      refine At.block_ret ?_
      refine At.then_ret ?_
      refine At.ret1 rfl rfl ?_
      exact ⟨_, rfl, congrArg Value.bool (decide_eq_true hin).symm, rfl⟩
    ·
      have h17 : ¬ L.getD i 0 = z := h17
      refine Sl.nil ?_
      refine At.weak [(0, _), (1, _), (5, _), (9, _), (17, _)] ⟨rfl, rfl, rfl, rfl, rfl, trivial⟩ ?_
      refine At.go ?_
      refine Sc.cond_f rfl ?_
      refine Sc.skip ?_
      refine At.block_normal ?_
      refine At.go ?_
      refine Sc.region ?_
      refine Sl.calm (Cm.move rfl) rfl ?_
      refine Sl.calm (Cm.add64 rfl rfl (by omega)) rfl ?_
      refine Sl.calm (Cm.assign rfl) rfl ?_
      refine Sl.nil ?_
      refine At.again (i + 1) ⟨rfl, rfl, rfl, trivial⟩ ⟨by omega, ?_, rfl⟩ (by show L.length - (i + 1) < L.length - i; omega)
      intro j hj
      by_cases hji : j = i
      · rw [hji]; exact h17
      · exact hz j (by omega)
  ·
    refine Sl.nil ?_
    refine At.weak [(0, _), (1, _), (5, _), (9, _)] ⟨rfl, rfl, rfl, rfl, trivial⟩ ?_
    refine At.go ?_
    refine Sc.cond_f rfl ?_
    refine Sc.exit ?_
    refine At.then_exit ?_
    refine At.then_exit ?_
    refine At.block_hit ?_
    refine At.go ?_
    refine Sc.seq ?_
    refine Sc.region ?_
    refine Sl.calm (Cm.assign rfl) rfl ?_
    refine Sl.nil ?_
    refine At.go ?_
    refine Sc.ret ?_
    refine At.ret1 rfl rfl ?_
    have hno : z ∉ L := by
      intro h
      obtain ⟨j, hj, e⟩ := List.getElem_of_mem h
      exact hz j (by omega) (by rw [List.getD, List.getElem?_eq_getElem hj]; exact e)
    exact ⟨_, rfl, congrArg Value.bool (decide_eq_false hno).symm, rfl⟩
def insAt (out : List Int) (v : Int) (k : Nat) : List Int := out.take k ++ v :: out.drop k
theorem insAt_len {out : List Int} {v : Int} {k : Nat} (h : k ≤ out.length) : (insAt out v k).length = out.length + 1 := by unfold insAt; simp; omega
theorem insAt_end (out : List Int) (v : Int) : insAt out v out.length = out ++ [v] := by unfold insAt; simp
theorem insAt_before {out : List Int} {v : Int} {k i : Nat} (h : i < k) (hk : k ≤ out.length) : (insAt out v k).getD i 0 = out.getD i 0 := by
  unfold insAt
  simp only [List.getD]
  rw [List.getElem?_append_left (by rw [List.length_take]; omega), List.getElem?_take, if_pos h]
theorem insAt_step {out : List Int} {v : Int} {j : Nat} (h : j < out.length) : ((insAt out v (j + 1)).set (j + 1) (out.getD j 0)).set j v = insAt out v j := by
  have e1 : out.take (j + 1) = out.take j ++ [out.getD j 0] := by rw [List.take_succ_eq_append_getElem h, List.getD, List.getElem?_eq_getElem h]; rfl
  have e2 : out.drop j = out.getD j 0 :: out.drop (j + 1) := by rw [List.drop_eq_getElem_cons h, List.getD, List.getElem?_eq_getElem h]; rfl
  have l1 : (out.take j).length = j := by rw [List.length_take]; omega
  unfold insAt
  rw [e1, e2, List.append_assoc, List.set_append_right _ _ (by omega), l1, show j + 1 - j = 1 by omega]
  rw [List.set_append_right _ _ (by omega), l1, Nat.sub_self]
  rfl
theorem insAt_mem {out : List Int} {v : Int} {k : Nat} {z : Int} : z ∈ insAt out v k ↔ z = v ∨ z ∈ out := by
  unfold insAt
  rw [List.mem_append, List.mem_cons]
  constructor
  · rintro (h | rfl | h)
    · exact .inr (List.mem_of_mem_take h)
    · exact .inl rfl
    · exact .inr (List.mem_of_mem_drop h)
  · rintro (rfl | h)
    · exact .inr (.inl rfl)
    · rw [← List.take_append_drop k out] at h
      rcases List.mem_append.1 h with h | h
      · exact .inl h
      · exact .inr (.inr h)
theorem insAt_sorted {out : List Int} {v : Int} {k : Nat} (hs : out.Pairwise (· < ·)) (hk : k ≤ out.length) (h1 : ∀ z ∈ out.drop k, v < z) (h2 : 0 < k → out.getD (k - 1) 0 < v) : (insAt out v k).Pairwise (· < ·) := by
  have hlow : ∀ z ∈ out.take k, z < v := by
    intro z hz
    obtain ⟨i, hi, rfl⟩ := List.getElem_of_mem hz
    rw [List.length_take] at hi
    have h3 := h2 (by omega)
    rw [List.getElem_take]
    by_cases e : i = k - 1
    · subst e; rw [List.getD, List.getElem?_eq_getElem (by omega)] at h3; exact h3
    · have h4 := List.pairwise_iff_getElem.1 hs i (k - 1) (by omega) (by omega) (by omega)
      rw [List.getD, List.getElem?_eq_getElem (by omega)] at h3
      have h3 : out[k - 1] < v := h3
      omega
  unfold insAt
  refine List.pairwise_append.2 ⟨hs.sublist (List.take_sublist _ _), List.pairwise_cons.2 ⟨h1, hs.sublist (List.drop_sublist _ _)⟩, ?_⟩
  intro a ha b hb
  have := hlow a ha
  rcases List.mem_cons.1 hb with rfl | hb
  · exact this
  · have := h1 b hb; omega
theorem ownZ_at : ∀ (ps : List (NdH × Nd)) (k : Nat) (p : NdH × Nd), ps[k]? = some p → (ownZ ps).getD (2 * k) 0 = p.2.ud ∧ (ownZ ps).getD (2 * k + 1) 0 = p.2.gd
  | [], k, p, h => by simp at h
  | q :: r, 0, p, h => by simp at h; subst h; exact ⟨rfl, rfl⟩
  | q :: r, k + 1, p, h => ownZ_at r k p (by simpa using h)
theorem ownZ_len : ∀ (ps : List (NdH × Nd)), (ownZ ps).length = 2 * ps.length
  | [] => rfl
  | q :: r => by have := ownZ_len r; show (q.2.ud :: q.2.gd :: ownZ r).length = 2 * (r.length + 1); simp only [List.length_cons]; omega
theorem add2 (a : Addr) (i j : Nat) : (a.add i).add j = a.add (i + j) := Addr.add_add a i j
set_option maxHeartbeats 4000000 in
theorem rids_ok (lo : Option Addr) (lc : Nat) (ps : List (NdH × Nd)) (W : World) (hv : VwM 10 encN W.heap lo lc ps) (hl : ps.length ≤ 1000) :
    Calls Try.prog 38 [.slice lo ps.length lc].toArray W (Ret fun v w' => ∃ o c L, v = .slice o (List.length (α := Int) L) c ∧ Own i64 3 w'.heap o c L ∧ Fr W.heap.size o ∧ IdsL ps L ∧ Foot nob W w') := by
  have hzl := ownZ_len ps
  refine calls_of_sc 71 [(0, _)] Try.func38 rfl rfl rfl (enter_slots ⟨rfl, trivial⟩) ?_
  refine Sc.seq ?_
  refine Sc.region ?_
  refine Sl.calm (Cm.assign rfl) rfl ?_
  refine Sl.nil ?_
  refine At.go ?_
  refine Sc.seq ?_
  refine Sc.region ?_
  refine Sl.lit0 i64 sl22 rfl ?_
  intro w1 ho1 hs1 hf1
  refine Sl.calm (Cm.assign rfl) rfl ?_
  refine Sl.nil ?_
  refine At.weak [(0, _), (2, _), (3, _)] ⟨rfl, rfl, rfl, trivial⟩ ?_
  refine At.go ?_
  refine Sc.seq ?_
  refine Sc.seq ?_
  refine Sc.region ?_
  refine Sl.calm (Cm.assign rfl) rfl ?_
  refine Sl.nil ?_
  refine At.go ?_
  refine Sc.block ?_
  refine Sc.loop (β := Nat × List Int × (Option Addr × Nat)) (fun ⟨i, out, ⟨oo, oc⟩⟩ => [(0, .slice lo ps.length lc), (3, .slice oo out.length oc), (4, .int .i64 i)]) (fun ⟨i, out, ⟨oo, oc⟩⟩ w => i ≤ 2 * ps.length ∧ Own i64 3 w.heap oo oc out ∧ out.Pairwise (· < ·) ∧ (∀ z, z ∈ out ↔ z ∈ (ownZ ps).take i) ∧ out.length ≤ i ∧ Fr W.heap.size oo ∧ Foot nob W w) (fun ⟨i, out, ⟨oo, oc⟩⟩ => 2 * ps.length - i) ⟨0, [], ⟨some ⟨W.heap.size, 0, none⟩, 0⟩⟩ ⟨rfl, rfl, rfl, trivial⟩ ⟨Nat.zero_le _, ho1, List.Pairwise.nil, by simp, Nat.le_refl _, (fun a ha => by cases ha; exact Nat.le_refl _), hf1⟩ ?_
  rintro ⟨i, out, ⟨oo, oc⟩⟩ w2 ⟨hi, hoo, hso, hmem, hol, hfro, hF2⟩
  refine Sc.seq ?_
  refine Sc.seq ?_
  refine Sc.region ?_
  refine Sl.calm (Cm.move rfl) rfl ?_
  refine Sl.calm (Cm.move rfl) rfl ?_
  refine Sl.calm (Cm.len sl65 rfl) rfl ?_
  refine Sl.calm (Cm.mul64 rfl rfl (by omega)) rfl ?_
  refine Sl.fork (Cm.lss rfl rfl) rfl (fun h13 => ?_) (fun h13 => ?_)
  ·
    have hi2 : i < 2 * ps.length := by omega
    obtain ⟨p, hp⟩ : ∃ p, ps[i / 2]? = some p := ⟨_, List.getElem?_eq_getElem (by omega)⟩
    obtain ⟨k1, k2⟩ := ownZ_at ps _ p hp
    obtain ⟨v, hvv⟩ : ∃ v, v = (ownZ ps).getD i 0 := ⟨_, rfl⟩
    have hv2 := hv.keep hF2 (fun _ _ => id)
    have htk : (ownZ ps).take (i + 1) = (ownZ ps).take i ++ [v] := by rw [List.take_succ_eq_append_getElem (by omega), hvv, List.getD, List.getElem?_eq_getElem (by omega)]; rfl
    refine Sl.nil ?_
    refine At.weak [(0, _), (3, _), (4, _), (13, _)] ⟨rfl, rfl, rfl, rfl, trivial⟩ ?_
    refine At.go ?_
    refine Sc.cond_t rfl ?_
    refine Sc.skip ?_
    refine At.go ?_
    refine Sc.seq ?_
    refine Sc.block ?_
    refine Sc.seq ?_
    refine Sc.region ?_
    refine Sl.calm (Cm.move rfl) rfl ?_
    refine Sl.calm (Cm.move rfl) rfl ?_
    refine Sl.calm (Cm.ofEq (u := .int .i64 ((i / 2 : Nat) : Int)) (Cm.quo64 rfl rfl (by omega) (by decide)) (by congr 1)) rfl ?_
    refine Sl.calm (Cm.indexAddr sl65 rfl rfl hv2.non (by omega)) rfl ?_
    refine Sl.calm (Cm.field fld72_3 rfl) rfl ?_
    refine Sl.calm (Cm.field fld69_1 rfl) rfl ?_
    refine Sl.calm (Cm.ld sca3 rfl (by rw [add2]; exact hv2.rowZ (i / 2) rfl hp 4 _ rfl)) rfl ?_
    refine Sl.calm (Cm.assign rfl) rfl ?_
    refine Sl.nil ?_
    refine At.weak [(0, _), (3, _), (4, _), (5, _), (13, _)] ⟨rfl, rfl, rfl, rfl, rfl, trivial⟩ ?_
    refine At.go ?_
    refine Sc.cut (β := Unit) (fun _u => [(0, .slice lo ps.length lc), (3, .slice oo out.length oc), (4, .int .i64 i), (5, .int .i64 v)]) (fun _u w => w = w2) ?_ ?_
    ·
      refine Sc.seq ?_
      refine Sc.region ?_
      refine Sl.calm (Cm.move rfl) rfl ?_
      refine Sl.calm (Cm.rem64 rfl rfl (by omega) (by decide)) rfl ?_
      refine Sl.fork (Cm.eql rfl rfl) rfl (fun h25 => ?_) (fun h25 => ?_)
      ·
        have hve : v = p.2.gd := by rw [hvv, ← k2]; congr 1; omega
        refine Sl.nil ?_
        refine At.weak [(0, _), (3, _), (4, _), (5, _), (13, _), (25, _)] ⟨rfl, rfl, rfl, rfl, rfl, rfl, trivial⟩ ?_
        refine At.go ?_
        refine Sc.cond_t rfl ?_
        refine Sc.region ?_
        refine Sl.calm (Cm.move rfl) rfl ?_
        refine Sl.calm (Cm.move rfl) rfl ?_
        refine Sl.calm (Cm.ofEq (u := .int .i64 ((i / 2 : Nat) : Int)) (Cm.quo64 rfl rfl (by omega) (by decide)) (by congr 1)) rfl ?_
        refine Sl.calm (Cm.indexAddr sl65 rfl rfl hv2.non (by omega)) rfl ?_
        refine Sl.calm (Cm.field fld72_3 rfl) rfl ?_
        refine Sl.calm (Cm.field fld69_2 rfl) rfl ?_
        refine Sl.calm (Cm.ld sca3 rfl (by rw [add2]; exact hv2.rowZ (i / 2) rfl hp 5 _ rfl)) rfl ?_
        refine Sl.calm (Cm.assign rfl) rfl ?_
        refine Sl.nil ?_
        exact At.cut () ⟨rfl, rfl, rfl, (by rw [hve]; rfl), trivial⟩ rfl
      ·
        have hve : v = p.2.ud := by rw [hvv, ← k1]; congr 1; omega
        refine Sl.nil ?_
        refine At.weak [(0, _), (3, _), (4, _), (5, _), (13, _), (25, _)] ⟨rfl, rfl, rfl, rfl, rfl, rfl, trivial⟩ ?_
        refine At.go ?_
        refine Sc.cond_f rfl ?_
        refine Sc.skip ?_
        exact At.cut () ⟨rfl, rfl, rfl, (by rw [hve]; rfl), trivial⟩ rfl
    ·
      rintro _ wq hwq
      obtain rfl : w2 = wq := hwq.symm
      refine Sc.seq ?_
      refine Sc.region ?_
      refine Sl.calm (Cm.move rfl) rfl ?_
      refine Sl.calm (Cm.move rfl) rfl ?_
      refine Sl.call fn69 rfl (rhas_ok oo oc out v w2 hoo.vw) rfl ?_
      rintro _ wq ⟨rfl, hwq⟩
      subst wq
      by_cases h35 : v ∈ out
      ·
        rw [decide_eq_true h35]
        refine Sl.calm (Cm.assign rfl) rfl ?_
        refine Sl.nil ?_
        refine At.weak [(0, _), (3, _), (4, _), (5, _), (6, _)] ⟨rfl, rfl, rfl, rfl, rfl, trivial⟩ ?_
        refine At.go ?_
        refine Sc.seq ?_
        refine Sc.seq ?_
        refine Sc.region ?_
        refine Sl.calm (Cm.move rfl) rfl ?_
        refine Sl.nil ?_
        refine At.go ?_
        refine Sc.cond_t rfl ?_
        refine Sc.exit ?_
        refine At.then_exit ?_
        refine At.block_hit ?_
        refine At.go ?_
        refine Sc.region ?_
        refine Sl.calm (Cm.move rfl) rfl ?_
        refine Sl.calm (Cm.add64 rfl rfl (by omega)) rfl ?_
        refine Sl.calm (Cm.assign rfl) rfl ?_
        refine Sl.nil ?_
        refine At.again ⟨i + 1, out, ⟨oo, oc⟩⟩ ⟨rfl, rfl, rfl, trivial⟩ ⟨by omega, hoo, hso, fun z => ?_, by omega, hfro, hF2⟩ (by show 2 * ps.length - (i + 1) < 2 * ps.length - i; omega)
        rw [htk, List.mem_append, ← hmem z, List.mem_singleton]
        exact ⟨.inl, fun h => h.elim id (fun e => by rw [e]; exact h35)⟩
      ·
        rw [decide_eq_false h35]
        refine Sl.calm (Cm.assign rfl) rfl ?_
        refine Sl.nil ?_
        refine At.weak [(0, _), (3, _), (4, _), (5, _), (6, _)] ⟨rfl, rfl, rfl, rfl, rfl, trivial⟩ ?_
        refine At.go ?_
        refine Sc.seq ?_
        refine Sc.seq ?_
        refine Sc.region ?_
        refine Sl.calm (Cm.move rfl) rfl ?_
        refine Sl.nil ?_
        refine At.go ?_
        refine Sc.cond_f rfl ?_
        refine Sc.skip ?_
        refine At.go ?_
        refine Sc.seq ?_
        refine Sc.region ?_
        refine Sl.calm (Cm.move rfl) rfl ?_
        refine Sl.calm (Cm.move rfl) rfl ?_
        refine Sl.lit1 (enc := i64) (u := v) sl22 (i64_oneD _) rfl rfl ?_
        intro w3 ho3 hs3 hf3
        refine Sl.append i64_oneD sl22 rfl rfl (hoo.grow hf3) ho3.vw (by simp only [List.length_singleton]; omega) (by simp only [List.length_singleton]; unfold maxLen; omega) rfl ?_
        intro o4 c4 w4 ho4 hf4 hr4 hn4
        have hz3 := hf3.size
        have hfr4 : Fr W.heap.size o4 := fr_next hfro hr4 (by have := hF2.size; omega)
        have hF4 : Foot nob W w4 := (hF2.trans hf3).trans_to hf4 (fun k ⟨a, ha, e⟩ => .inr (by have := hfro a ha; omega))
        rw [← insAt_end] at ho4 ⊢
        have hil := insAt_len (out := out) (v := v) (Nat.le_refl _)
        refine Sl.calm (Cm.assign rfl) rfl ?_
        refine Sl.nil ?_
        refine At.weak [(0, _), (3, _), (4, _), (5, _), (6, _), (36, _)] ⟨rfl, rfl, rfl, rfl, rfl, rfl, trivial⟩ ?_
        refine At.go ?_
        refine Sc.seq ?_
        refine Sc.region ?_
        refine Sl.calm (Cm.move rfl) rfl ?_
        refine Sl.calm (Cm.len sl22 rfl) rfl ?_
        refine Sl.calm (Cm.sub64 rfl rfl (by omega)) rfl ?_
        refine Sl.calm (Cm.assign rfl) rfl ?_
        refine Sl.nil ?_
        refine At.weak [(0, _), (3, _), (4, _), (5, _), (6, _), (7, _), (36, _)] ⟨rfl, rfl, rfl, rfl, rfl, rfl, rfl, trivial⟩ ?_
        refine At.go ?_
        refine Sc.block ?_
        refine Sc.loop (β := Nat) (fun k => [(0, .slice lo ps.length lc), (3, .slice o4 (out.length + 1) c4), (4, .int .i64 i), (5, .int .i64 v), (7, .int .i64 k)]) (fun k w => k ≤ out.length ∧ Own i64 3 w.heap o4 c4 (insAt out v k) ∧ (∀ z ∈ out.drop k, v < z) ∧ Foot nob W w) (fun k => k) out.length ⟨rfl, (by rw [hil]; rfl), rfl, rfl, (congrArg (fun z : Int => some (Value.int .i64 z)) (show (((insAt out v out.length).length : Nat) : Int) - 1 = (out.length : Nat) by omega)), trivial⟩ ⟨Nat.le_refl _, ho4, by simp, hF4⟩ ?_
        rintro k w5 ⟨hk, ho5, hgtd, hF5⟩
        have hil5 := insAt_len (out := out) (v := v) hk
        refine Sc.seq ?_
        refine Sc.seq ?_
        refine Sc.region ?_
        refine Sl.calm (Cm.move rfl) rfl ?_
        refine Sl.fork (Cm.gtr rfl rfl) rfl (fun h45 => ?_) (fun h45 => ?_)
        ·
          have hk0 : 0 < k := by omega
          refine Sl.calm (Cm.move rfl) rfl ?_
          refine Sl.want rfl rfl (Cm.move rfl) rfl ?_
          refine Sl.want rfl rfl (Cm.move rfl) rfl ?_
          refine Sl.want rfl rfl (Cm.sub64 rfl rfl (by omega)) rfl ?_
          refine Sl.want rfl rfl (Cm.indexAddr1 sl22 rfl rfl (fun _ => ho5.vw.non (by rw [hil5]; omega)) (by omega)) rfl ?_
          refine Sl.want rfl rfl (Cm.ofEq (u := .int .i64 (out.getD (k - 1) 0)) (Cm.ld sca3 rfl (ho5.vw.gz 0 (k - 1) (by omega) (by rw [hil5]; omega))) (by rw [insAt_before (by omega) hk]; rfl)) rfl ?_
          refine Sl.want rfl rfl (Cm.move rfl) rfl ?_
          refine Sl.forkWant rfl rfl (Cm.gtr rfl rfl) rfl (fun h53 => ?_) (fun h53 => ?_)
          ·
            have hgt : v < out.getD (k - 1) 0 := h53
            refine Sl.calm (Cm.pick_t rfl rfl) rfl ?_
            refine Sl.nil ?_
            refine At.weak [(0, _), (3, _), (4, _), (5, _), (7, _), (54, _)] ⟨rfl, rfl, rfl, rfl, rfl, rfl, trivial⟩ ?_
            refine At.go ?_
            refine Sc.cond_t rfl ?_
            refine Sc.skip ?_
            refine At.go ?_
            refine Sc.seq ?_
            refine Sc.block ?_
            refine Sc.seq ?_
            refine Sc.region ?_
            refine Sl.calm (Cm.move rfl) rfl ?_
            refine Sl.calm (Cm.move rfl) rfl ?_
            refine Sl.calm (Cm.move rfl) rfl ?_
            refine Sl.calm (Cm.move rfl) rfl ?_
            refine Sl.calm (Cm.sub64 rfl rfl (by omega)) rfl ?_
            refine Sl.calm (Cm.indexAddr1 sl22 rfl rfl (fun _ => ho5.vw.non (by rw [hil5]; omega)) (by omega)) rfl ?_
            refine Sl.calm (Cm.ofEq (u := .int .i64 (out.getD (k - 1) 0)) (Cm.ld sca3 rfl (ho5.vw.gz 0 (k - 1) (by omega) (by rw [hil5]; omega))) (by rw [insAt_before (by omega) hk]; rfl)) rfl ?_
            refine Sl.calm (Cm.indexAddr1 sl22 rfl rfl (fun _ => ho5.vw.non (by rw [hil5]; omega)) (by omega)) rfl ?_
            refine Sl.storeRow i64_oneD sca3 (z := (k : Int)) (u := out.getD (k - 1) 0) rfl rfl ho5 (by rw [hil5]; omega) ?_
            intro w6 ho6 hs6 hf6
            rw [Int.toNat_natCast] at ho6
            refine Sl.nil ?_
            refine At.weak [(0, _), (3, _), (4, _), (5, _), (7, _), (54, _)] ⟨rfl, rfl, rfl, rfl, rfl, rfl, trivial⟩ ?_
            refine At.go ?_
            refine Sc.region ?_
            refine Sl.calm (Cm.move rfl) rfl ?_
            refine Sl.calm (Cm.move rfl) rfl ?_
            refine Sl.calm (Cm.sub64 rfl rfl (by omega)) rfl ?_
            refine Sl.calm (Cm.move rfl) rfl ?_
            refine Sl.calm (Cm.indexAddr1 sl22 rfl rfl (fun _ => ho5.vw.non (by rw [hil5]; omega)) (by omega)) rfl ?_
            refine Sl.storeRow i64_oneD sca3 (z := ((k - 1 : Nat) : Int)) (u := v) (by show evL _ _ = _; rw [show (((k - 1 : Nat) : Int)) = (k : Int) - 1 by omega]; rfl) rfl ho6 (by rw [List.length_set, hil5]; omega) ?_
            intro w7 ho7 hs7 hf7
            rw [Int.toNat_natCast] at ho7
            obtain ⟨j, hj⟩ : ∃ j, k = j + 1 := ⟨k - 1, by omega⟩
            subst hj
            rw [Nat.add_sub_cancel, insAt_step (by omega)] at ho7
            have hl67 : (((insAt out v (j + 1)).set (j + 1) (out.getD (j + 1 - 1) 0)).set (j + 1 - 1) v).length = (insAt out v j).length := by rw [Nat.add_sub_cancel, insAt_step (by omega)]
            refine Sl.nil ?_
            refine At.block_normal ?_
            refine At.weak [(0, _), (3, _), (4, _), (5, _), (7, _), (54, _)] ⟨rfl, rfl, rfl, rfl, rfl, rfl, trivial⟩ ?_
            refine At.go ?_
            refine Sc.region ?_
            refine Sl.calm (Cm.move rfl) rfl ?_
            refine Sl.calm (Cm.sub64 rfl rfl (by omega)) rfl ?_
            refine Sl.calm (Cm.assign rfl) rfl ?_
            refine Sl.nil ?_
            refine At.again j ⟨rfl, rfl, rfl, rfl, congrArg (fun z : Int => some (Value.int .i64 z)) (show ((j + 1 : Nat) : Int) - 1 = (j : Nat) by omega), trivial⟩ ⟨by omega, ho7, fun z hz => ?_, (hF5.trans_to hf6 (fun k ⟨a, ha, e⟩ => .inr (by have := hfr4 a ha; omega))).trans_to hf7 (fun k ⟨a, ha, e⟩ => .inr (by have := hfr4 a ha; omega))⟩ (by show j < j + 1; omega)
            rw [List.drop_eq_getElem_cons (by omega)] at hz
            rcases List.mem_cons.1 hz with rfl | hz
            · rw [Nat.add_sub_cancel, List.getD, List.getElem?_eq_getElem (by omega)] at hgt; exact hgt
            · exact hgtd z hz
          ·
            have hle : ¬ v < out.getD (k - 1) 0 := h53
            refine Sl.calm (Cm.pick_t rfl rfl) rfl ?_
            refine Sl.nil ?_
            refine At.weak [(0, _), (3, _), (4, _), (5, _), (7, _), (54, _)] ⟨rfl, rfl, rfl, rfl, rfl, rfl, trivial⟩ ?_
            refine At.go ?_
            refine Sc.cond_f rfl ?_
            refine Sc.exit ?_
            refine At.then_exit ?_
            refine At.then_exit ?_
            refine At.block_hit ?_
            refine At.block_normal ?_
            refine At.go ?_
            refine Sc.region ?_
            refine Sl.calm (Cm.move rfl) rfl ?_
            refine Sl.calm (Cm.add64 rfl rfl (by omega)) rfl ?_
            refine Sl.calm (Cm.assign rfl) rfl ?_
            refine Sl.nil ?_
            have hne : ∀ z ∈ out, z ≠ v := fun z hz e => h35 (e ▸ hz)
            have hsn : (insAt out v k).Pairwise (· < ·) := insAt_sorted hso hk hgtd (fun h0 => by
              first
                | exact absurd hk0 (by omega)
                | (have hm : out.getD (k - 1) 0 ∈ out := by rw [List.getD, List.getElem?_eq_getElem (by omega)]; exact List.getElem_mem _
                   have := hne _ hm
                   omega))
            refine At.again ⟨i + 1, insAt out v k, ⟨o4, c4⟩⟩ ⟨rfl, (by rw [hil5]; rfl), rfl, trivial⟩ ⟨by omega, ho5, hsn, fun z => ?_, by rw [hil5]; omega, hfr4, hF5⟩ (by show 2 * ps.length - (i + 1) < 2 * ps.length - i; omega)
            rw [htk, List.mem_append, ← hmem z, List.mem_singleton, insAt_mem]
            exact Or.comm
        ·
          have hk0 : k = 0 := by omega
          refine Sl.calm (Cm.move rfl) rfl ?_
          refine Sl.skip rfl rfl rfl rfl ?_
          refine Sl.skip rfl rfl rfl rfl ?_
          refine Sl.skip rfl rfl rfl rfl ?_
          refine Sl.skip rfl rfl rfl rfl ?_
          refine Sl.skip rfl rfl rfl rfl ?_
          refine Sl.skip rfl rfl rfl rfl ?_
          refine Sl.skip rfl rfl rfl rfl ?_
          refine Sl.calm (Cm.pick_f rfl rfl) rfl ?_
          refine Sl.nil ?_
          refine At.weak [(0, _), (3, _), (4, _), (5, _), (7, _), (54, _)] ⟨rfl, rfl, rfl, rfl, rfl, rfl, trivial⟩ ?_
          refine At.go ?_
          refine Sc.cond_f rfl ?_
          refine Sc.exit ?_
          refine At.then_exit ?_
          refine At.then_exit ?_
          refine At.block_hit ?_
          refine At.block_normal ?_
          refine At.go ?_
          refine Sc.region ?_
          refine Sl.calm (Cm.move rfl) rfl ?_
          refine Sl.calm (Cm.add64 rfl rfl (by omega)) rfl ?_
          refine Sl.calm (Cm.assign rfl) rfl ?_
          refine Sl.nil ?_
          have hne : ∀ z ∈ out, z ≠ v := fun z hz e => h35 (e ▸ hz)
          have hsn : (insAt out v k).Pairwise (· < ·) := insAt_sorted hso hk hgtd (fun h0 => by
            first
              | exact absurd hk0 (by omega)
              | (have hm : out.getD (k - 1) 0 ∈ out := by rw [List.getD, List.getElem?_eq_getElem (by omega)]; exact List.getElem_mem _
                 have := hne _ hm
                 omega))
          refine At.again ⟨i + 1, insAt out v k, ⟨o4, c4⟩⟩ ⟨rfl, (by rw [hil5]; rfl), rfl, trivial⟩ ⟨by omega, ho5, hsn, fun z => ?_, by rw [hil5]; omega, hfr4, hF5⟩ (by show 2 * ps.length - (i + 1) < 2 * ps.length - i; omega)
          rw [htk, List.mem_append, ← hmem z, List.mem_singleton, insAt_mem]
          exact Or.comm
  ·
    have hie : i = 2 * ps.length := by omega
    subst hie
    rw [List.take_of_length_le (by omega)] at hmem
    refine Sl.nil ?_
    refine At.weak [(0, _), (3, _), (4, _), (13, _)] ⟨rfl, rfl, rfl, rfl, trivial⟩ ?_
    refine At.go ?_
    refine Sc.cond_f rfl ?_
    refine Sc.exit ?_
    refine At.then_exit ?_
    refine At.then_exit ?_
    refine At.block_hit ?_
    refine At.go ?_
    refine Sc.seq ?_
    refine Sc.region ?_
    refine Sl.calm (Cm.move rfl) rfl ?_
    refine Sl.calm (Cm.assign rfl) rfl ?_
    refine Sl.nil ?_
    refine At.weak [(0, _), (2, _), (3, _), (4, _), (13, _)] ⟨rfl, rfl, rfl, rfl, rfl, trivial⟩ ?_
    refine At.go ?_
    refine Sc.ret ?_
    refine At.ret1 rfl rfl ?_
    exact ⟨_, rfl, oo, oc, out, rfl, hoo, hfro, ⟨hso, hmem⟩, hF2⟩
end Go.Proofs.Ytoaplldahbbaiaa
