/- tree: what is within a directory, by the reference. No condition beyond the bounds that each states. -/
import Derived.Test.YtpnfjfbfgaiolaaTsHk
namespace Go.Proofs.Ytpnfjfbfgaiolaa
open Go Go.RowKit Go.Maps
set_option linter.unusedVariables false

/-- a row into which one is being put -/
def stl (ys : List Int) (i : Int) (k : Nat) : List Int := ys.take k ++ (if k = ys.length then i else ys.getD k 0) :: ys.drop k
section
variable {ys : List Int} {i : Int} {k : Nat}
theorem stl_len (hk : k ≤ ys.length) : (stl ys i k).length = ys.length + 1 := by unfold stl; simp; omega
theorem stl_end : stl ys i ys.length = ys ++ [i] := by unfold stl; rw [if_pos rfl]; simp
theorem stl_get {j : Nat} (hk : k ≤ ys.length) (hj : j < k) : (stl ys i k).getD j 0 = ys.getD j 0 := by
  unfold stl
  rw [List.getD, List.getD, List.getElem?_append_left (by rw [List.length_take]; omega), List.getElem?_take, if_pos hj]
  rfl
theorem stl_at (hk : k ≤ ys.length) {u : Int} : (stl ys i k).set k u = ys.take k ++ u :: ys.drop k := by
  unfold stl
  rw [List.set_append_right _ _ (by rw [List.length_take]; omega)]
  rw [List.length_take, show k - min k ys.length = 0 by omega]; rfl
theorem stl_step (hk : k ≤ ys.length) (h0 : 0 < k) : (stl ys i k).set k (ys.getD (k - 1) 0) = stl ys i (k - 1) := by
  rw [stl_at hk]
  have h1 : ys[k - 1]? = some (ys.getD (k - 1) 0) := by rw [List.getD, List.getElem?_eq_getElem (by omega)]; rfl
  have h2 := tkL h1
  have h3 := drop_at h1
  rw [show k - 1 + 1 = k by omega] at h2 h3
  unfold stl
  rw [if_neg (by omega), h2, h3]
  simp
end
def KF (ps : List (NdH × Nd)) (z : Int) : List (List UInt8) := nmG ps z.toNat
theorem kid_ins {ps : List (NdH × Nd)} {s : List (List UInt8)} {ys : List Int} {i k : Nat} (hp : ys.Perm (kidG ps s i)) (hs : ys.Pairwise (ltS (KF ps))) (hk : k ≤ ys.length) (hi : kidQ (nmG ps i) s)
    (h1 : ∀ j, k ≤ j → j < ys.length → Op.bytesLess (lastN (nmG ps i)) (lastN (nmG ps (ys.getD j 0).toNat)) = true) (h2 : 0 < k → ¬ Op.bytesLess (lastN (nmG ps i)) (lastN (nmG ps (ys.getD (k - 1) 0).toNat)) = true) :
    (ys.take k ++ (i : Int) :: ys.drop k).Perm (kidG ps s (i + 1)) ∧ (ys.take k ++ (i : Int) :: ys.drop k).Pairwise (ltS (KF ps)) := by
  have hm : ∀ {j : Nat} {x : Int}, ys[j]? = some x → 0 ≤ x ∧ x < i ∧ kidQ (nmG ps x.toNat) s := fun hx => by
    obtain ⟨q, e, hq, hk⟩ := kidG_mem.1 (hp.mem_iff.1 (List.mem_of_getElem? hx))
    subst e; exact ⟨by omega, by omega, hk⟩
  have hg : ∀ {j : Nat} {x : Int}, ys[j]? = some x → ys.getD j 0 = x := fun hx => by rw [List.getD, hx]; rfl
  have hB : ∀ (j : Nat) (x : Int), k ≤ j → ys[j]? = some x → ltS (KF ps) i x := fun j x hj hx => by
    have h := h1 j hj (List.getElem?_eq_some_iff.1 hx).1
    rw [hg hx] at h
    exact .inl (by show cmpL (nmG ps ((i : Int).toNat)) (nmG ps x.toNat) < 0; rw [Int.toNat_natCast, kid_cmp hi (hm hx).2.2]; exact cmpB_gt.2 h)
  have hA : ∀ (j : Nat) (x : Int), j < k → ys[j]? = some x → ltS (KF ps) x i := fun j x hj hx => by
    obtain ⟨y, hy⟩ : ∃ y, ys[k - 1]? = some y := ⟨_, List.getElem?_eq_getElem (by omega)⟩
    have h := h2 (by omega)
    rw [hg hy] at h
    have hl : ltS (KF ps) y i := ltS_no (hm hy).2.1 (by show ¬ cmpL (nmG ps ((i : Int).toNat)) (nmG ps y.toNat) < 0; rw [Int.toNat_natCast, kid_cmp hi (hm hy).2.2]; exact fun g => h (cmpB_gt.1 g))
    by_cases e : j = k - 1
    · subst e; rw [hx] at hy; cases hy; exact hl
    · have e1 := List.getElem?_eq_some_iff.1 hx
      have e2 := List.getElem?_eq_some_iff.1 hy
      have := List.pairwise_iff_getElem.1 hs j (k - 1) e1.1 e2.1 (by omega)
      rw [e1.2, e2.2] at this
      exact ltS_trans this hl
  constructor
  · rw [kidG_yes hi]; exact ins_perm hp
  · rw [List.pairwise_append, List.pairwise_cons]
    have hd : ∀ x ∈ ys.drop k, ∃ j, k ≤ j ∧ ys[j]? = some x := fun x hx => by
      obtain ⟨j, hj⟩ := List.getElem?_of_mem hx
      rw [List.getElem?_drop] at hj; exact ⟨k + j, by omega, hj⟩
    have ht : ∀ x ∈ ys.take k, ∃ j, j < k ∧ ys[j]? = some x := fun x hx => by
      obtain ⟨j, hj⟩ := List.getElem?_of_mem hx
      rw [List.getElem?_take] at hj
      split at hj
      · exact ⟨j, by assumption, hj⟩
      · cases hj
    refine ⟨hs.sublist (List.take_sublist _ _), ⟨fun x hx => ?_, hs.sublist (List.drop_sublist _ _)⟩, fun x hx y hy => ?_⟩
    · obtain ⟨j, hj, e⟩ := hd x hx; exact hB j x hj e
    · obtain ⟨j, hj, e⟩ := ht x hx
      rcases List.mem_cons.1 hy with rfl | hy
      · exact hA j x hj e
      · obtain ⟨j2, hj2, e'⟩ := hd y hy
        exact ltS_trans (hA j x hj e) (hB j2 y hj2 e')
theorem pw_srt {K : Int → List (List UInt8)} {xs : List Int} (h : xs.Pairwise (ltS K)) : Srt K xs 0 xs.length := fun i j _ hij hj => by
  rw [gd_at (by omega), gd_at hj]; exact List.pairwise_iff_getElem.1 h i j (by omega) hj hij
variable {D : Nat → Prop}
set_option maxHeartbeats 4000000 in
theorem rkids_ok (lo : Option Addr) (lc : Nat) (ps : List (NdH × Nd)) (so : Option Addr) (sc : Nat) (s : List (List UInt8)) (W : World) (hv : NodesV D W.heap lo lc ps) (hs : Vw strE W.heap so sc s) (hn : ps.length ≤ 100000) :
    Calls Try.prog 17 [.slice lo ps.length lc, .slice so s.length sc].toArray W (Ret fun v w' => ∃ o c ys, v = .slice o (List.length (α := Int) ys) c ∧ Own i64 3 w'.heap o c ys ∧ Fr W.heap.size o ∧ KidsL ps s ys ∧ Foot nob W w') := by
  have h63 := hv.1.len63
  have hs63 : s.length ≤ 9223372036854775807 := by have := hs.len63; omega
  refine calls_of_sc 74 [(0, _), (1, _)] Try.func17 rfl rfl rfl (enter_slots ⟨rfl, rfl, trivial⟩) ?_
  refine Sc.seq ?_
  refine Sc.region ?_
  refine Sl.calm (Cm.assign rfl) rfl ?_
  refine Sl.nil ?_
  refine At.go ?_
  refine Sc.seq ?_
  refine Sc.region ?_
  refine Sl.lit0 i64 sl37 rfl ?_
  intro w1 ho1 hs1 hf1
  refine Sl.calm (Cm.assign rfl) rfl ?_
  refine Sl.nil ?_
  refine At.weak [(0, _), (1, _), (4, _), (5, _)] ⟨rfl, rfl, rfl, rfl, trivial⟩ ?_
  refine At.go ?_
  refine Sc.seq ?_
  refine Sc.seq ?_
  refine Sc.region ?_
  refine Sl.calm (Cm.assign rfl) rfl ?_
  refine Sl.nil ?_
  refine At.go ?_
  refine Sc.block ?_
  refine Sc.loop (β := Nat × Option Addr × Nat × List Int) (fun ⟨i, o, c, ys⟩ => [(0, .slice lo ps.length lc), (1, .slice so s.length sc), (5, .slice o ys.length c), (6, .int .i64 i)]) (fun ⟨i, o, c, ys⟩ w => i ≤ ps.length ∧ Own i64 3 w.heap o c ys ∧ Fr W.heap.size o ∧ ys.Perm (kidG ps s i) ∧ ys.Pairwise (ltS (KF ps)) ∧ Foot nob W w) (fun ⟨i, o, c, ys⟩ => ps.length - i) ⟨0, some ⟨W.heap.size, 0, none⟩, 0, []⟩ ⟨rfl, rfl, rfl, rfl, trivial⟩ ⟨Nat.zero_le _, ho1, fun a ha => by cases ha; exact Nat.le_refl _, List.Perm.refl _, List.Pairwise.nil, hf1⟩ ?_
  rintro ⟨i, o, c, ys⟩ w2 ⟨hi, ho2, hfo, hyp, hyw, hF2⟩
  refine Sc.seq ?_
  refine Sc.seq ?_
  refine Sc.region ?_
  refine Sl.calm (Cm.move rfl) rfl ?_
  refine Sl.calm (Cm.move rfl) rfl ?_
  refine Sl.calm (Cm.len sl22 rfl) rfl ?_
  refine Sl.fork (Cm.lss rfl rfl) rfl (fun h13 => ?_) (fun h13 => ?_)
  ·
    have hil : i < ps.length := by omega
    obtain ⟨p, hp⟩ : ∃ p, ps[i]? = some p := ⟨_, List.getElem?_eq_getElem hil⟩
    have hv2 := hv.grow hF2
    have hs2 := hs.grow hF2
    have hll := kidG_len (ps := ps) (s := s) i
    have hyl := hyp.length_eq
    have hnm := nmG_at hp
    have hn2 := (hv2.2 p (List.mem_of_getElem? hp)).1
    have hpl : p.2.names.length ≤ 9223372036854775807 := by have := hn2.2.1.len63; omega
    refine Sl.nil ?_
    refine At.weak [(0, _), (1, _), (5, _), (6, _), (13, _)] ⟨rfl, rfl, rfl, rfl, rfl, trivial⟩ ?_
    refine At.go ?_
    refine Sc.cond_t rfl ?_
    refine Sc.skip ?_
    refine At.go ?_
    refine Sc.seq ?_
    refine Sc.block ?_
    refine Sc.seq ?_
    refine Sc.region ?_
    refine Sl.calm (Cm.move rfl) rfl ?_
    refine Sl.calm (Cm.move rfl) rfl ?_
    refine Sl.calm (Cm.indexAddr sl22 rfl rfl hv2.1.non (by omega)) rfl ?_
    refine Sl.calm (Cm.field fld34_0 rfl) rfl ?_
    refine Sl.calm (Cm.ofEq (u := .slice p.1.names.a p.2.names.length p.1.names.c) (Cm.ld sca28 rfl (hv2.1.rowZ i rfl hp 0 _ rfl)) (by rw [← hn2.1]; rfl)) rfl ?_
    refine Sl.calm (Cm.assign rfl) rfl ?_
    refine Sl.nil ?_
    refine At.weak [(0, _), (1, _), (5, _), (6, _), (7, _), (13, _)] ⟨rfl, rfl, rfl, rfl, rfl, rfl, trivial⟩ ?_
    refine At.go ?_
    refine Sc.seq ?_
    refine Sc.seq ?_
    refine Sc.region ?_
    refine Sl.calm (Cm.move rfl) rfl ?_
    refine Sl.calm (Cm.len sl28 rfl) rfl ?_
    refine Sl.calm (Cm.move rfl) rfl ?_
    refine Sl.calm (Cm.len sl28 rfl) rfl ?_
    refine Sl.calm (Cm.addW rfl rfl) rfl ?_
    refine Sl.fork (Cm.neq rfl rfl) rfl (fun h26 => ?_) (fun h26 => ?_)
    ·
      have hkd : ¬ kidQ (nmG ps i) s := by rw [hnm]; exact fun h => h26 ((wrap_succ hpl hs63).2 h.1)
      refine Sl.calm (Cm.move rfl) rfl ?_
      refine Sl.skip rfl rfl rfl rfl ?_
      refine Sl.skip rfl rfl rfl rfl ?_
      refine Sl.skip rfl rfl rfl rfl ?_
      refine Sl.skip rfl rfl rfl rfl ?_
      refine Sl.skip rfl rfl rfl rfl ?_
      refine Sl.skip rfl rfl rfl rfl ?_
      refine Sl.skip rfl rfl rfl rfl ?_
      refine Sl.calm (Cm.pick_t rfl rfl) rfl ?_
      refine Sl.nil ?_
      refine At.weak [(0, _), (1, _), (5, _), (6, _), (7, _), (13, _), (35, _)] ⟨rfl, rfl, rfl, rfl, rfl, rfl, rfl, trivial⟩ ?_
      refine At.go ?_
      refine Sc.cond_t rfl ?_
      refine Sc.exit ?_
      refine At.then_exit ?_
      refine At.block_hit ?_
      refine At.go ?_
      refine Sc.region ?_
      refine Sl.calm (Cm.move rfl) rfl ?_
      refine Sl.calm (Cm.add64 rfl rfl (by omega)) rfl ?_
      refine Sl.calm (Cm.assign rfl) rfl ?_
      refine Sl.nil ?_
      first
        | exact At.again ⟨i + 1, o7, c7, ys.take k ++ (i : Int) :: ys.drop k⟩ ⟨rfl, rfl, congrArg (fun n => some (Value.slice o7 n c7)) (by simp; omega), rfl, trivial⟩ ⟨by omega, hoC, hfo7, (kid_ins hyp hyw hk hkd hj8 hend).1, (kid_ins hyp hyw hk hkd hj8 hend).2, hFX.trans_to hfC hfo7.step⟩ (by show ps.length - (i + 1) < ps.length - i; omega)
        | exact At.again ⟨i + 1, o, c, ys⟩ ⟨rfl, rfl, rfl, rfl, trivial⟩ ⟨by omega, ho2.grow hf3, hfo, by rw [kidG_no hkd]; exact hyp, hyw, hF2.trans hf3⟩ (by show ps.length - (i + 1) < ps.length - i; omega)
        | exact At.again ⟨i + 1, o, c, ys⟩ ⟨rfl, rfl, rfl, rfl, trivial⟩ ⟨by omega, ho2, hfo, by rw [kidG_no hkd]; exact hyp, hyw, hF2⟩ (by show ps.length - (i + 1) < ps.length - i; omega)
    ·
      have hpe : p.2.names.length = s.length + 1 := (wrap_succ hpl hs63).1 (Decidable.not_not.1 h26)
      refine Sl.calm (Cm.move rfl) rfl ?_
      refine Sl.want rfl rfl (Cm.move rfl) rfl ?_
      refine Sl.want rfl rfl (Cm.move rfl) rfl ?_
      refine Sl.want rfl rfl (Cm.len sl28 rfl) rfl ?_
      refine Sl.want rfl rfl (Cm.ofEq (u := .slice p.1.names.a (p.2.names.take s.length).length p.1.names.c) (Cm.sliceH sl28 rfl rfl (by have := hn2.2.1.le; omega)) (by rw [cutAo_zero, List.length_take]; congr 1; omega)) rfl ?_
      refine Sl.want rfl rfl (Cm.move rfl) rfl ?_
      refine Sl.callWant rfl rfl fn26 rfl (rsame_ok p.1.names.a so p.1.names.c sc (p.2.names.take s.length) s w2 (hn2.2.1.take _) hs2) rfl ?_
      rintro _ w3 ⟨rfl, hf3⟩
      by_cases h33 : p.2.names.take s.length = s
      ·
        rw [decide_eq_true h33]
        have hkd : kidQ (nmG ps i) s := by rw [hnm]; exact ⟨hpe, h33⟩
        refine Sl.want rfl rfl (Cm.not rfl) rfl ?_
        refine Sl.calm (Cm.pick_f rfl rfl) rfl ?_
        refine Sl.nil ?_
        refine At.weak [(0, _), (1, _), (5, _), (6, _), (7, _), (13, _), (35, _)] ⟨rfl, rfl, rfl, rfl, rfl, rfl, rfl, trivial⟩ ?_
        refine At.go ?_
        refine Sc.cond_f rfl ?_
        refine Sc.skip ?_
        refine At.go ?_
        refine Sc.seq ?_
        refine Sc.region ?_
        refine Sl.calm (Cm.move rfl) rfl ?_
        refine Sl.calm (Cm.len sl37 rfl) rfl ?_
        refine Sl.calm (Cm.assign rfl) rfl ?_
        refine Sl.nil ?_
        refine At.weak [(0, _), (1, _), (5, _), (6, _), (7, _), (8, _), (13, _), (35, _)] ⟨rfl, rfl, rfl, rfl, rfl, rfl, rfl, rfl, trivial⟩ ?_
        refine At.go ?_
        refine Sc.seq ?_
        refine Sc.region ?_
        refine Sl.calm (Cm.move rfl) rfl ?_
        refine Sl.calm (Cm.move rfl) rfl ?_
        refine Sl.lit1 (enc := i64) (u := (i : Int)) sl37 (i64_oneS _) rfl rfl ?_
        intro w4 ho4 hs4 hf4
        refine Sl.append i64_oneS sl37 rfl rfl ((ho2.grow hf3).grow hf4) ho4.vw (by simp only [List.length_singleton]; omega) (by simp only [List.length_singleton]; unfold maxLen; omega) rfl ?_
        intro o7 c7 w7 ho7 hf7 hr7 hn7
        have hF7 : Foot nob W w7 := (hF2.trans (hf3.trans hf4)).trans_to hf7 hfo.step
        have hfo7 : Fr W.heap.size o7 := fr_app hfo hr7 (by have := hF2.size; have := hf3.size; have := hf4.size; omega)
        refine Sl.calm (Cm.assign rfl) rfl ?_
        refine Sl.nil ?_
        refine At.weak [(0, _), (1, _), (5, _), (6, _), (7, _), (8, _), (13, _), (35, _)] ⟨rfl, rfl, rfl, rfl, rfl, rfl, rfl, rfl, trivial⟩ ?_
        refine At.go ?_
        refine Sc.seq ?_
        refine Sc.block ?_
        refine Sc.loop (β := Nat) (fun k => [(0, .slice lo ps.length lc), (1, .slice so s.length sc), (5, .slice o7 (ys ++ [(i : Int)]).length c7), (6, .int .i64 i), (7, .slice p.1.names.a p.2.names.length p.1.names.c), (8, .int .i64 k)]) (fun k w => k ≤ ys.length ∧ Own i64 3 w.heap o7 c7 (stl ys i k) ∧ (∀ j, k ≤ j → j < ys.length → Op.bytesLess (lastN (nmG ps i)) (lastN (nmG ps (ys.getD j 0).toNat)) = true) ∧ Foot nob W w) (fun k => k) ys.length ⟨rfl, rfl, rfl, rfl, rfl, rfl, trivial⟩ ⟨Nat.le_refl _, by rw [stl_end]; exact ho7, fun j h1 h2 => by omega, hF7⟩ ?_
        rintro k w8 ⟨hk, ho8, hj8, hF8⟩
        refine Sc.seq ?_
        refine Sc.seq ?_
        refine Sc.region ?_
        refine Sl.calm (Cm.move rfl) rfl ?_
        refine Sl.fork (Cm.gtr rfl rfl) rfl (fun h43 => ?_) (fun h43 => ?_)
        ·
          have hk0 : 0 < k := by omega
          obtain ⟨z, hz⟩ : ∃ z, z = ys.getD (k - 1) 0 := ⟨_, rfl⟩
          have hzm : z ∈ ys := by rw [hz]; exact gd_mem (by omega)
          obtain ⟨zk, hze, hzi, hzq⟩ := kidG_mem.1 (hyp.mem_iff.1 hzm)
          have hzl : 0 ≤ z ∧ z < ps.length := by omega
          obtain ⟨q, hq⟩ : ∃ q, ps[z.toNat]? = some q := ⟨_, List.getElem?_eq_getElem (by omega)⟩
          have hv8 := hv.grow hF8
          have hnq := (hv8.2 q (List.mem_of_getElem? hq)).1
          have hnp := (hv8.2 p (List.mem_of_getElem? hp)).1
          have hqk : kidQ q.2.names s := by rw [hze, Int.toNat_natCast] at hq; rw [nmG_at hq] at hzq; exact hzq
          have hqe : q.2.names ≠ [] := fun e => by have := hqk.1; rw [e] at this; simp at this
          have hpe2 : p.2.names ≠ [] := fun e => by rw [e] at hpe; simp at hpe
          refine Sl.calm (Cm.move rfl) rfl ?_
          refine Sl.want rfl rfl (Cm.move rfl) rfl ?_
          refine Sl.want rfl rfl (Cm.move rfl) rfl ?_
          refine Sl.want rfl rfl (Cm.move rfl) rfl ?_
          refine Sl.want rfl rfl (Cm.sub64 rfl rfl (by omega)) rfl ?_
          refine Sl.want rfl rfl (Cm.indexAddr1 sl37 rfl rfl (fun _ => ho8.vw.non (by rw [stl_len hk]; omega)) (by simp only [List.length_append, List.length_singleton]; omega)) rfl ?_
          refine Sl.want rfl rfl (Cm.ofEq (u := .int .i64 z) (Cm.ld sca3 rfl (ho8.vw.gz 0 (k - 1) (by omega) (by rw [stl_len hk]; omega))) (by rw [stl_get hk (by omega), ← hz]; rfl)) rfl ?_
          refine Sl.want rfl rfl (Cm.indexAddr sl22 rfl rfl hv8.1.non (by omega)) rfl ?_
          refine Sl.want rfl rfl (Cm.field fld34_0 rfl) rfl ?_
          refine Sl.want rfl rfl (Cm.ofEq (u := .slice q.1.names.a q.2.names.length q.1.names.c) (Cm.ld sca28 rfl (hv8.1.rowZ z.toNat (by omega) hq 0 _ rfl)) (by rw [← hnq.1]; rfl)) rfl ?_
          refine Sl.callWant rfl rfl fn42 rfl (last_ok q.1.names.a q.1.names.c q.2.names w8 hnq.2.1 hqe) rfl ?_
          rintro _ w9 ⟨rfl, hf9⟩
          refine Sl.want rfl rfl (Cm.move rfl) rfl ?_
          refine Sl.callWant rfl rfl fn42 rfl (last_ok p.1.names.a p.1.names.c p.2.names w9 (hnp.2.1.grow hf9) hpe2) rfl ?_
          rintro _ wA ⟨rfl, hfA⟩
          have hFA := hF8.trans (hf9.trans hfA)
          have hoA := (ho8.grow hf9).grow hfA
          refine Sl.forkWant rfl rfl (Cm.ofBool (Cm.gtrBs rfl rfl)) rfl (fun h57 => ?_) (fun h57 => ?_)
          ·
            rw [less_not] at h57
            replace h57 : Op.bytesLess (lastN (nmG ps i)) (lastN (nmG ps z.toNat)) = true := by rw [hnm, nmG_at hq]; simpa using h57
            refine Sl.calm (Cm.pick_t rfl rfl) rfl ?_
            refine Sl.nil ?_
            refine At.weak [(0, _), (1, _), (5, _), (6, _), (7, _), (8, _), (58, _)] ⟨rfl, rfl, rfl, rfl, rfl, rfl, rfl, trivial⟩ ?_
            refine At.go ?_
            refine Sc.cond_t rfl ?_
            refine Sc.skip ?_
            refine At.go ?_
            refine Sc.block ?_
            refine Sc.seq ?_
            refine Sc.region ?_
            refine Sl.calm (Cm.move rfl) rfl ?_
            refine Sl.calm (Cm.move rfl) rfl ?_
            refine Sl.calm (Cm.move rfl) rfl ?_
            refine Sl.calm (Cm.move rfl) rfl ?_
            refine Sl.calm (Cm.sub64 rfl rfl (by omega)) rfl ?_
            refine Sl.calm (Cm.indexAddr1 sl37 rfl rfl (fun _ => hoA.vw.non (by rw [stl_len hk]; omega)) (by simp only [List.length_append, List.length_singleton]; omega)) rfl ?_
            refine Sl.calm (Cm.ofEq (u := .int .i64 z) (Cm.ld sca3 rfl (hoA.vw.gz 0 (k - 1) (by omega) (by rw [stl_len hk]; omega))) (by rw [stl_get hk (by omega), ← hz]; rfl)) rfl ?_
            refine Sl.calm (Cm.indexAddr1 sl37 rfl rfl (fun _ => hoA.vw.non (by rw [stl_len hk]; omega)) (by simp only [List.length_append, List.length_singleton]; omega)) rfl ?_
            refine Sl.storeRow i64_oneS sca3 (z := (k : Int)) (u := z) rfl rfl hoA (by rw [stl_len hk]; omega) ?_
            intro wB hoB hsB hfB
            rw [Int.toNat_natCast, hz, stl_step hk hk0] at hoB
            refine Sl.nil ?_
            refine At.weak [(0, _), (1, _), (5, _), (6, _), (7, _), (8, _), (58, _)] ⟨rfl, rfl, rfl, rfl, rfl, rfl, rfl, trivial⟩ ?_
            refine At.go ?_
            refine Sc.region ?_
            refine Sl.calm (Cm.move rfl) rfl ?_
            refine Sl.calm (Cm.sub64 rfl rfl (by omega)) rfl ?_
            refine Sl.calm (Cm.assign rfl) rfl ?_
            refine Sl.nil ?_
            refine At.block_normal ?_
            have hj9 : ∀ j, k - 1 ≤ j → j < ys.length → Op.bytesLess (lastN (nmG ps i)) (lastN (nmG ps (ys.getD j 0).toNat)) = true := fun j h1 h2 => by
              by_cases e : j = k - 1
              · rw [e, ← hz]; exact h57
              · exact hj8 j (by omega) h2
            exact At.again (k - 1) ⟨rfl, rfl, rfl, rfl, rfl, congrArg (fun z : Int => some (Value.int .i64 z)) (by omega), trivial⟩ ⟨by omega, hoB, hj9, hFA.trans_to hfB hfo7.step⟩ (by show k - 1 < k; omega)
          ·
            rw [less_not] at h57
            replace h57 : ¬ Op.bytesLess (lastN (nmG ps i)) (lastN (nmG ps z.toNat)) = true := by rw [hnm, nmG_at hq]; simpa using h57
            have hoX := hoA
            have hFX := hFA
            have hend : 0 < k → ¬ Op.bytesLess (lastN (nmG ps i)) (lastN (nmG ps (ys.getD (k - 1) 0).toNat)) = true := fun _ => by rw [← hz]; exact h57
            refine Sl.calm (Cm.pick_t rfl rfl) rfl ?_
            refine Sl.nil ?_
            refine At.weak [(0, _), (1, _), (5, _), (6, _), (7, _), (8, _), (58, _)] ⟨rfl, rfl, rfl, rfl, rfl, rfl, rfl, trivial⟩ ?_
            refine At.go ?_
            refine Sc.cond_f rfl ?_
            refine Sc.exit ?_
            refine At.then_exit ?_
            refine At.then_exit ?_
            refine At.block_hit ?_
            refine At.go ?_
            refine Sc.region ?_
            refine Sl.calm (Cm.move rfl) rfl ?_
            refine Sl.calm (Cm.move rfl) rfl ?_
            refine Sl.calm (Cm.move rfl) rfl ?_
            refine Sl.calm (Cm.indexAddr1 sl37 rfl rfl (fun _ => hoX.vw.non (by rw [stl_len hk]; omega)) (by simp only [List.length_append, List.length_singleton]; omega)) rfl ?_
            refine Sl.storeRow i64_oneS sca3 (z := (k : Int)) (u := (i : Int)) rfl rfl hoX (by rw [stl_len hk]; omega) ?_
            intro wC hoC hsC hfC
            rw [Int.toNat_natCast, stl_at hk] at hoC
            refine Sl.nil ?_
            refine At.block_normal ?_
            refine At.weak [(0, _), (1, _), (5, _), (6, _), (7, _), (8, _), (58, _)] ⟨rfl, rfl, rfl, rfl, rfl, rfl, rfl, trivial⟩ ?_
            refine At.go ?_
            refine Sc.region ?_
            refine Sl.calm (Cm.move rfl) rfl ?_
            refine Sl.calm (Cm.add64 rfl rfl (by omega)) rfl ?_
            refine Sl.calm (Cm.assign rfl) rfl ?_
            refine Sl.nil ?_
            first
              | exact At.again ⟨i + 1, o7, c7, ys.take k ++ (i : Int) :: ys.drop k⟩ ⟨rfl, rfl, congrArg (fun n => some (Value.slice o7 n c7)) (by simp; omega), rfl, trivial⟩ ⟨by omega, hoC, hfo7, (kid_ins hyp hyw hk hkd hj8 hend).1, (kid_ins hyp hyw hk hkd hj8 hend).2, hFX.trans_to hfC hfo7.step⟩ (by show ps.length - (i + 1) < ps.length - i; omega)
              | exact At.again ⟨i + 1, o, c, ys⟩ ⟨rfl, rfl, rfl, rfl, trivial⟩ ⟨by omega, ho2.grow hf3, hfo, by rw [kidG_no hkd]; exact hyp, hyw, hF2.trans hf3⟩ (by show ps.length - (i + 1) < ps.length - i; omega)
              | exact At.again ⟨i + 1, o, c, ys⟩ ⟨rfl, rfl, rfl, rfl, trivial⟩ ⟨by omega, ho2, hfo, by rw [kidG_no hkd]; exact hyp, hyw, hF2⟩ (by show ps.length - (i + 1) < ps.length - i; omega)
        ·
          have hk0 : k = 0 := by omega
          have hoX := ho8
          have hFX := hF8
          have hend : 0 < k → ¬ Op.bytesLess (lastN (nmG ps i)) (lastN (nmG ps (ys.getD (k - 1) 0).toNat)) = true := fun h => by omega
          refine Sl.calm (Cm.move rfl) rfl ?_
          refine Sl.skip rfl rfl rfl rfl ?_
          refine Sl.skip rfl rfl rfl rfl ?_
          refine Sl.skip rfl rfl rfl rfl ?_
          refine Sl.skip rfl rfl rfl rfl ?_
          refine Sl.skip rfl rfl rfl rfl ?_
          refine Sl.skip rfl rfl rfl rfl ?_
          refine Sl.skip rfl rfl rfl rfl ?_
          refine Sl.skip rfl rfl rfl rfl ?_
          refine Sl.skip rfl rfl rfl rfl ?_
          refine Sl.skip rfl rfl rfl rfl ?_
          refine Sl.skip rfl rfl rfl rfl ?_
          refine Sl.skip rfl rfl rfl rfl ?_
          refine Sl.skip rfl rfl rfl rfl ?_
          refine Sl.calm (Cm.pick_f rfl rfl) rfl ?_
          refine Sl.nil ?_
          refine At.weak [(0, _), (1, _), (5, _), (6, _), (7, _), (8, _), (58, _)] ⟨rfl, rfl, rfl, rfl, rfl, rfl, rfl, trivial⟩ ?_
          refine At.go ?_
          refine Sc.cond_f rfl ?_
          refine Sc.exit ?_
          refine At.then_exit ?_
          refine At.then_exit ?_
          refine At.block_hit ?_
          refine At.go ?_
          refine Sc.region ?_
          refine Sl.calm (Cm.move rfl) rfl ?_
          refine Sl.calm (Cm.move rfl) rfl ?_
          refine Sl.calm (Cm.move rfl) rfl ?_
          refine Sl.calm (Cm.indexAddr1 sl37 rfl rfl (fun _ => hoX.vw.non (by rw [stl_len hk]; omega)) (by simp only [List.length_append, List.length_singleton]; omega)) rfl ?_
          refine Sl.storeRow i64_oneS sca3 (z := (k : Int)) (u := (i : Int)) rfl rfl hoX (by rw [stl_len hk]; omega) ?_
          intro wC hoC hsC hfC
          rw [Int.toNat_natCast, stl_at hk] at hoC
          refine Sl.nil ?_
          refine At.block_normal ?_
          refine At.weak [(0, _), (1, _), (5, _), (6, _), (7, _), (8, _), (58, _)] ⟨rfl, rfl, rfl, rfl, rfl, rfl, rfl, trivial⟩ ?_
          refine At.go ?_
          refine Sc.region ?_
          refine Sl.calm (Cm.move rfl) rfl ?_
          refine Sl.calm (Cm.add64 rfl rfl (by omega)) rfl ?_
          refine Sl.calm (Cm.assign rfl) rfl ?_
          refine Sl.nil ?_
          first
            | exact At.again ⟨i + 1, o7, c7, ys.take k ++ (i : Int) :: ys.drop k⟩ ⟨rfl, rfl, congrArg (fun n => some (Value.slice o7 n c7)) (by simp; omega), rfl, trivial⟩ ⟨by omega, hoC, hfo7, (kid_ins hyp hyw hk hkd hj8 hend).1, (kid_ins hyp hyw hk hkd hj8 hend).2, hFX.trans_to hfC hfo7.step⟩ (by show ps.length - (i + 1) < ps.length - i; omega)
            | exact At.again ⟨i + 1, o, c, ys⟩ ⟨rfl, rfl, rfl, rfl, trivial⟩ ⟨by omega, ho2.grow hf3, hfo, by rw [kidG_no hkd]; exact hyp, hyw, hF2.trans hf3⟩ (by show ps.length - (i + 1) < ps.length - i; omega)
            | exact At.again ⟨i + 1, o, c, ys⟩ ⟨rfl, rfl, rfl, rfl, trivial⟩ ⟨by omega, ho2, hfo, by rw [kidG_no hkd]; exact hyp, hyw, hF2⟩ (by show ps.length - (i + 1) < ps.length - i; omega)
      ·
        rw [decide_eq_false h33]
        have hkd : ¬ kidQ (nmG ps i) s := by rw [hnm]; exact fun h => h33 h.2
        refine Sl.want rfl rfl (Cm.not rfl) rfl ?_
        refine Sl.calm (Cm.pick_f rfl rfl) rfl ?_
        refine Sl.nil ?_
        refine At.weak [(0, _), (1, _), (5, _), (6, _), (7, _), (13, _), (35, _)] ⟨rfl, rfl, rfl, rfl, rfl, rfl, rfl, trivial⟩ ?_
        refine At.go ?_
        refine Sc.cond_t rfl ?_
        refine Sc.exit ?_
        refine At.then_exit ?_
        refine At.block_hit ?_
        refine At.go ?_
        refine Sc.region ?_
        refine Sl.calm (Cm.move rfl) rfl ?_
        refine Sl.calm (Cm.add64 rfl rfl (by omega)) rfl ?_
        refine Sl.calm (Cm.assign rfl) rfl ?_
        refine Sl.nil ?_
        first
          | exact At.again ⟨i + 1, o7, c7, ys.take k ++ (i : Int) :: ys.drop k⟩ ⟨rfl, rfl, congrArg (fun n => some (Value.slice o7 n c7)) (by simp; omega), rfl, trivial⟩ ⟨by omega, hoC, hfo7, (kid_ins hyp hyw hk hkd hj8 hend).1, (kid_ins hyp hyw hk hkd hj8 hend).2, hFX.trans_to hfC hfo7.step⟩ (by show ps.length - (i + 1) < ps.length - i; omega)
          | exact At.again ⟨i + 1, o, c, ys⟩ ⟨rfl, rfl, rfl, rfl, trivial⟩ ⟨by omega, ho2.grow hf3, hfo, by rw [kidG_no hkd]; exact hyp, hyw, hF2.trans hf3⟩ (by show ps.length - (i + 1) < ps.length - i; omega)
          | exact At.again ⟨i + 1, o, c, ys⟩ ⟨rfl, rfl, rfl, rfl, trivial⟩ ⟨by omega, ho2, hfo, by rw [kidG_no hkd]; exact hyp, hyw, hF2⟩ (by show ps.length - (i + 1) < ps.length - i; omega)
  ·
    have hie : i = ps.length := by omega
    subst hie
    refine Sl.nil ?_
    refine At.weak [(0, _), (1, _), (5, _), (6, _), (13, _)] ⟨rfl, rfl, rfl, rfl, rfl, trivial⟩ ?_
    refine At.go ?_
    refine Sc.cond_f rfl ?_
    refine Sc.exit ?_
    refine At.then_exit ?_
    refine At.then_exit ?_
    refine At.block_hit ?_
    refine At.go ?_
    refine Sc.seq ?_
    refine Sc.region ?_
    refine Sl.calm (Cm.move rfl) rfl ?_
    refine Sl.calm (Cm.assign rfl) rfl ?_
    refine Sl.nil ?_
    refine At.weak [(0, _), (1, _), (4, _), (5, _), (6, _), (13, _)] ⟨rfl, rfl, rfl, rfl, rfl, rfl, trivial⟩ ?_
    refine At.go ?_
    refine Sc.ret ?_
    refine At.ret1 rfl rfl ?_
    exact ⟨_, rfl, o, c, ys, rfl, ho2, hfo, ⟨hyp, pw_srt hyw⟩, hF2⟩
end Go.Proofs.Ytpnfjfbfgaiolaa
