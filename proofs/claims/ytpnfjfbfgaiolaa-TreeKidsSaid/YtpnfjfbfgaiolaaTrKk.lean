/- tree: the program's named. No condition beyond the bounds that each states. -/
import Derived.Test.YtpnfjfbfgaiolaaTrHk
import Derived.Test.YtpnfjfbfgaiolaaTrJk
import Derived.Test.YtpnfjfbfgaiolaaSkk
namespace Go.Proofs.Ytpnfjfbfgaiolaa
open Go Go.RowKit Go.Maps
set_option linter.unusedVariables false

def zNd : Value := .agg (encN (ndh0, nd0)).toArray
theorem mpN : MapT Try.prog 47 9 34 zNd := ⟨by kernel_rfl, by kernel_rfl⟩

/-! nodes by their paths -/
def atN (qs : List (NdH × Nd)) (s : List (List UInt8)) : NdH × Nd := (qs.find? (fun q => decide (q.2.names = s))).getD (ndh0, nd0)
def hasN (qs : List (NdH × Nd)) (s : List (List UInt8)) : Prop := ∃ q ∈ qs, q.2.names = s
instance (qs : List (NdH × Nd)) (s : List (List UInt8)) : Decidable (hasN qs s) := by unfold hasN; exact inferInstance
def MapN (qs : List (NdH × Nd)) (m : List (SK × Value)) : Prop := ∀ (s : List (List UInt8)) (h : (pathL s).length ≤ maxLen), okPath s → getM m (⟨pathL s, h⟩ : SK) = (qs.find? (fun q => decide (q.2.names = s))).map (fun q => Value.agg (encN q).toArray)
section
variable {qs : List (NdH × Nd)} {m : List (SK × Value)} {s : List (List UInt8)}
theorem MapN.nil : MapN [] [] := fun s h hs => rfl
theorem MapN.z (h : MapN qs m) (hs : okPath s) (hl : (pathL s).length ≤ maxLen) : (getM m (⟨pathL s, hl⟩ : SK)).getD zNd = Value.agg (encN (atN qs s)).toArray := by
  rw [h s hl hs]; unfold atN
  cases qs.find? (fun q => decide (q.2.names = s)) <;> rfl
theorem MapN.is (h : MapN qs m) (hs : okPath s) (hl : (pathL s).length ≤ maxLen) : decide ((getM m (⟨pathL s, hl⟩ : SK)).isSome = true) = decide (hasN qs s) := by
  apply decide_eq_decide.2
  rw [h s hl hs, Option.isSome_map, List.find?_isSome]
  simp [hasN]
theorem MapN.snoc (h : MapN qs m) {p : NdH × Nd} (hp : okPath p.2.names) (hn : ¬ hasN qs p.2.names) (hl : (pathL p.2.names).length ≤ maxLen) : MapN (qs ++ [p]) (setM m (⟨pathL p.2.names, hl⟩ : SK) (.agg (encN p).toArray)) := fun s hs ho => by
  rw [setM_get, List.find?_append]
  by_cases e : p.2.names = s
  · subst e
    have : qs.find? (fun q => decide (q.2.names = p.2.names)) = none := List.find?_eq_none.2 (fun q hq => by simpa using fun e => hn ⟨q, hq, e⟩)
    rw [if_pos rfl, this]; simp
  · have : [p].find? (fun q => decide (q.2.names = s)) = none := by simp [e]
    rw [if_neg (fun g => e (pathL_inj ho hp (congrArg Subtype.val g)).symm), h s hs ho, this, Option.or_none]
end
theorem names_of {l : List Nd} {n : Nd} (h : ∀ s ∈ allNm l, vErr s = 0) (hn : n ∈ l) : okPath n.names ∧ ∀ s ∈ n.names, s.length ≤ 255 := by
  have k : ∀ s ∈ n.names, vErr s = 0 := fun s hs => h s (List.mem_flatMap.2 ⟨n, hn, hs⟩)
  exact ⟨fun s hs => ⟨(vErr_ok (k s hs)).2.1, (vErr_ok (k s hs)).2.2.2⟩, fun s hs => (vErr_ok (k s hs)).1⟩
theorem path_len {s : List (List UInt8)} (hl : s.length ≤ 16) (h : ∀ x ∈ s, x.length ≤ 255) : (pathL s).length ≤ maxLen := by
  have := join_len h
  unfold pathL maxLen
  rw [List.length_cons]; omega
theorem twice_in {ps : List (NdH × Nd)} {i : Nat} {p : NdH × Nd} (hp : ps[i]? = some p) (h : hasN (ps.take i) p.2.names) : twiceL (nds ps) := by
  obtain ⟨q, hq, e⟩ := h
  obtain ⟨j, hj⟩ := List.getElem?_of_mem hq
  rw [List.getElem?_take] at hj
  split at hj
  · exact (twice_iff ps).2 ⟨j, i, q, p, by assumption, hj, hp, e⟩
  · cases hj
theorem notin_find {ps : List (NdH × Nd)} {i : Nat} {p : NdH × Nd} (hp : ps[i]? = some p) (h : ¬ hasN (ps.take i) p.2.names) : ¬ findP ps p.2.names < i := by
  intro hlt
  rcases findP_spec ps p.2.names with ⟨h1, h2⟩ | ⟨j, q, h1, h2, h3, h4⟩
  · exact absurd rfl (h2 p (List.mem_of_getElem? hp))
  · exact h ⟨q, List.mem_of_getElem? (i := j) (by rw [List.getElem?_take, if_pos (by omega)]; exact h2), h3⟩
theorem atN_dir {ps : List (NdH × Nd)} (ht : ¬ twiceL (nds ps)) (s : List (List UInt8)) : (atN ps s).2.kind = 1 ↔ dirAt (nds ps) s := by
  unfold atN
  cases hf : ps.find? (fun q => decide (q.2.names = s)) with
  | none =>
    rw [List.find?_eq_none] at hf
    constructor
    · intro h; cases h
    · rintro ⟨n, hn, h1, h2⟩
      obtain ⟨q, hq, rfl⟩ := List.mem_map.1 hn
      exact absurd (decide_eq_true h1) (hf q hq)
  | some q =>
    have hq := List.mem_of_find?_eq_some hf
    have he : q.2.names = s := by simpa using List.find?_some (p := fun q : NdH × Nd => decide (q.2.names = s)) hf
    constructor
    · intro h; exact ⟨q.2, List.mem_map.2 ⟨q, hq, rfl⟩, he, h⟩
    · rintro ⟨n, hn, h1, h2⟩
      obtain ⟨r, hr, rfl⟩ := List.mem_map.1 hn
      obtain ⟨i, hi⟩ := List.getElem?_of_mem hq
      obtain ⟨j, hj⟩ := List.getElem?_of_mem hr
      have : i = j := by
        apply Classical.byContradiction
        intro hne
        rcases Nat.lt_or_gt_of_ne hne with hlt | hgt
        · exact ht ((twice_iff ps).2 ⟨i, j, q, r, hlt, hi, hj, he.trans h1.symm⟩)
        · exact ht ((twice_iff ps).2 ⟨j, i, r, q, hgt, hj, hi, h1.trans he.symm⟩)
      subst this; rw [hi] at hj; cases hj; exact h2
variable {D : Nat → Prop}
set_option maxHeartbeats 4000000 in
theorem named_ok (lo : Option Addr) (lc : Nat) (ps : List (NdH × Nd)) (W : World) (hv : NodesV D W.heap lo lc ps) (hsm : ∀ p ∈ ps, smN p.2) :
    Calls Try.prog 27 [.slice lo ps.length lc].toArray W (Ret fun v w' => ∃ z, z = nmd (nds ps) ∧ Foot nob W w' ∧ ((z ≠ 0 ∧ v = .tuple [.map none, .int .i64 z].toArray) ∨ (z = 0 ∧ ∃ g m, v = .tuple [.map (some g), .int .i64 0].toArray ∧ MapL enS w'.heap g m ∧ MapN ps m))) := by
  have h63 := hv.1.len63
  refine calls_of_sc 70 [(0, _)] Try.func27 rfl rfl rfl (enter_slots ⟨rfl, trivial⟩) ?_
  refine Sc.seq ?_
  refine Sc.region ?_
  refine Sl.calm (Cm.assign rfl) rfl ?_
  refine Sl.calm (Cm.assign rfl) rfl ?_
  refine Sl.nil ?_
  refine At.go ?_
  refine Sc.seq ?_
  refine Sc.seq ?_
  refine Sc.region ?_
  refine Sl.calm (Cm.move rfl) rfl ?_
  refine Sl.calm (Cm.len sl22 rfl) rfl ?_
  refine Sl.calm (Cm.move rfl) rfl ?_
  refine Sl.nil ?_
  refine At.go ?_
  refine Sc.block ?_
  refine Sc.loop (β := Nat) (fun i => [(0, .slice lo ps.length lc), (17, .slice lo ps.length lc), (18, .int .i64 ps.length), (19, .int .i64 i)]) (fun i w => i ≤ ps.length ∧ (∀ s ∈ allNm ((nds ps).take i), vErr s = 0) ∧ Foot nob W w) (fun i => ps.length - i) 0 ⟨rfl, rfl, rfl, rfl, trivial⟩ ⟨Nat.zero_le _, by simp [allNm], Foot.refl _ _⟩ ?_
  rintro i w2 ⟨hi, hok, hF2⟩
  refine Sc.seq ?_
  refine Sc.region ?_
  refine Sl.fork (Cm.lss rfl rfl) rfl (fun h20 => ?_) (fun h20 => ?_)
  ·
    have hil : i < ps.length := by omega
    obtain ⟨p, hp⟩ : ∃ p, ps[i]? = some p := ⟨_, List.getElem?_eq_getElem hil⟩
    have hpm := List.mem_of_getElem? hp
    have hv2 := hv.grow hF2
    refine Sl.nil ?_
    refine At.go ?_
    refine Sc.seq ?_
    refine Sc.cond_t rfl ?_
    refine Sc.skip ?_
    refine At.go ?_
    refine Sc.seq ?_
    refine Sc.block ?_
    refine Sc.seq ?_
    refine Sc.region ?_
    refine Sl.calm (Cm.indexAddr sl22 rfl rfl hv2.1.non (by omega)) rfl ?_
    refine Sl.calm (Cm.ldM (cs := encN p) agg34 rfl (fun j v hj => hv2.1.rowZ i rfl hp j v hj)) rfl ?_
    refine Sl.allocC zc34 rfl ?_
    intro w4 hg4 hs4 hf4
    obtain ⟨q, hq⟩ : ∃ q, q = w2.heap.size := ⟨_, rfl⟩
    rw [← hq] at hg4 ⊢
    refine Sl.storeAll (vs := encN p) agg34 rfl rfl (encN_cells p).2 hg4 rfl ?_
    intro w5 hg5 hs5 hf5
    have hF5 : Foot nob W w5 := hF2.trans (hf4.trans_to hf5 (fun k e => .inr (by have e : k = q := e; omega)))
    have hn5 := ((hv.grow hF5).2 p hpm).1
    refine Sl.nil ?_
    refine At.weak [(0, _), (5, _), (17, _), (18, _), (19, _), (20, _)] ⟨rfl, rfl, rfl, rfl, rfl, rfl, trivial⟩ ?_
    refine At.go ?_
    refine Sc.seq ?_
    refine Sc.region ?_
    refine Sl.calm (Cm.field fld34_0 rfl) rfl ?_
    refine Sl.calm (Cm.ld sca28 rfl (cellF hg5 rfl)) rfl ?_
    refine Sl.calm (Cm.len sl28 rfl) rfl ?_
    rw [hn5.1]
    refine Sl.calm (Cm.move rfl) rfl ?_
    refine Sl.nil ?_
    refine At.weak [(0, _), (5, _), (17, _), (18, _), (19, _), (20, _), (24, _), (25, _), (26, _)] ⟨rfl, rfl, rfl, rfl, rfl, rfl, rfl, rfl, rfl, trivial⟩ ?_
    refine At.go ?_
    refine Sc.block ?_
    refine Sc.loop (β := Nat) (fun k => [(0, .slice lo ps.length lc), (17, .slice lo ps.length lc), (18, .int .i64 ps.length), (19, .int .i64 i), (24, hd p.1.names), (25, .int .i64 p.2.names.length), (26, .int .i64 k)]) (fun k w => k ≤ p.2.names.length ∧ (∀ s ∈ p.2.names.take k, vErr s = 0) ∧ Foot nob W w) (fun k => p.2.names.length - k) 0 ⟨rfl, rfl, rfl, rfl, rfl, rfl, rfl, trivial⟩ ⟨Nat.zero_le _, by simp, hF5⟩ ?_
    rintro k w3 ⟨hk, hok2, hF3⟩
    refine Sc.seq ?_
    refine Sc.region ?_
    refine Sl.fork (Cm.lss rfl rfl) rfl (fun h27 => ?_) (fun h27 => ?_)
    ·
      have hkl : k < p.2.names.length := by omega
      obtain ⟨s, hs⟩ : ∃ s, p.2.names[k]? = some s := ⟨_, List.getElem?_eq_getElem hkl⟩
      have hn3 := ((hv.grow hF3).2 p hpm).1
      have hl63 := hn3.2.1.len63
      refine Sl.nil ?_
      refine At.go ?_
      refine Sc.seq ?_
      refine Sc.cond_t rfl ?_
      refine Sc.skip ?_
      refine At.go ?_
      refine Sc.seq ?_
      refine Sc.block ?_
      refine Sc.seq ?_
      refine Sc.region ?_
      refine Sl.calm (Cm.indexAddr1 sl28 rfl rfl (by rw [hn3.1]; exact hn3.2.1.non) (by have := hn3.1; omega)) rfl ?_
      refine Sl.calm (Cm.ld sca9 rfl (hn3.2.1.get k s hs)) rfl ?_
      refine Sl.calm (Cm.assign rfl) rfl ?_
      refine Sl.nil ?_
      refine At.weak [(0, _), (7, _), (17, _), (18, _), (19, _), (24, _), (25, _), (26, _), (27, _)] ⟨rfl, rfl, rfl, rfl, rfl, rfl, rfl, rfl, rfl, trivial⟩ ?_
      refine At.go ?_
      refine Sc.seq ?_
      refine Sc.region ?_
      refine Sl.calm (Cm.move rfl) rfl ?_
      refine Sl.call fn54 rfl (valid_ok s w3 ((hsm p hpm).2.1 s (List.mem_of_getElem? hs))) rfl ?_
      rintro _ w6 ⟨rfl, hf6⟩
      refine Sl.calm (Cm.assign rfl) rfl ?_
      refine Sl.nil ?_
      refine At.weak [(0, _), (7, _), (8, _), (17, _), (18, _), (19, _), (24, _), (25, _), (26, _), (27, _)] ⟨rfl, rfl, rfl, rfl, rfl, rfl, rfl, rfl, rfl, rfl, trivial⟩ ?_
      refine At.go ?_
      refine Sc.seq ?_
      refine Sc.region ?_
      refine Sl.calm (Cm.move rfl) rfl ?_
      refine Sl.fork (Cm.neq rfl rfl) rfl (fun h33 => ?_) (fun h33 => ?_)
      ·
        refine Sl.nil ?_
        refine At.weak [(0, _), (7, _), (8, _), (17, _), (18, _), (19, _), (24, _), (25, _), (26, _), (27, _), (33, _)] ⟨rfl, rfl, rfl, rfl, rfl, rfl, rfl, rfl, rfl, rfl, rfl, trivial⟩ ?_
        refine At.go ?_
        refine Sc.cond_t rfl ?_
        refine Sc.seq ?_
        refine Sc.region ?_
        refine Sl.calm (Cm.move rfl) rfl ?_
        refine Sl.calm (Cm.assign rfl) rfl ?_
        refine Sl.calm (Cm.assign rfl) rfl ?_
        refine Sl.nil ?_
        refine At.weak [(0, _), (2, _), (3, _), (7, _), (8, _), (17, _), (18, _), (19, _), (24, _), (25, _), (26, _), (27, _), (33, _)] ⟨rfl, rfl, rfl, rfl, rfl, rfl, rfl, rfl, rfl, rfl, rfl, rfl, rfl, trivial⟩ ?_
        refine At.go ?_
        refine Sc.ret ?_
        refine At.block_ret ?_
        refine At.then_ret ?_
        refine At.then_ret ?_
        refine At.block_ret ?_
        refine At.block_ret ?_
        refine At.then_ret ?_
        refine At.then_ret ?_
        refine At.block_ret ?_
        refine At.then_ret ?_
        refine At.ret2 rfl rfl rfl ?_
        have e := nmErr_at (nds_get hp) hs hok hok2 h33
        exact ⟨_, rfl, _, (show vErr s = nmd (nds ps) by unfold nmd; rw [e, if_pos h33]), hF3.trans hf6, .inl ⟨h33, rfl⟩⟩
      ·
        refine Sl.nil ?_
        refine At.weak [(0, _), (7, _), (8, _), (17, _), (18, _), (19, _), (24, _), (25, _), (26, _), (27, _), (33, _)] ⟨rfl, rfl, rfl, rfl, rfl, rfl, rfl, rfl, rfl, rfl, rfl, trivial⟩ ?_
        refine At.go ?_
        refine Sc.cond_f rfl ?_
        refine Sc.skip ?_
        refine At.block_normal ?_
        refine At.go ?_
        refine Sc.region ?_
        refine Sl.calm (Cm.add64 rfl rfl (by omega)) rfl ?_
        refine Sl.calm (Cm.move rfl) rfl ?_
        refine Sl.nil ?_
        refine At.again (k + 1) ⟨rfl, rfl, rfl, rfl, rfl, rfl, rfl, trivial⟩ ⟨by omega, fun t ht => ?_, hF3.trans hf6⟩ (by show p.2.names.length - (k + 1) < p.2.names.length - k; omega)
        rw [tkL hs, List.mem_append, List.mem_singleton] at ht
        rcases ht with ht | rfl
        · exact hok2 t ht
        · exact Classical.not_not.1 h33
    ·
      have hke : k = p.2.names.length := by omega
      subst hke
      rw [List.take_length] at hok2
      refine Sl.nil ?_
      refine At.go ?_
      refine Sc.seq ?_
      refine Sc.cond_f rfl ?_
      refine Sc.exit ?_
      refine At.then_exit ?_
      refine At.then_exit ?_
      refine At.block_hit ?_
      refine At.block_normal ?_
      refine At.go ?_
      refine Sc.region ?_
      refine Sl.calm (Cm.add64 rfl rfl (by omega)) rfl ?_
      refine Sl.calm (Cm.move rfl) rfl ?_
      refine Sl.nil ?_
      refine At.again (i + 1) ⟨rfl, rfl, rfl, rfl, trivial⟩ ⟨by omega, fun s hs => ?_, hF3⟩ (by show ps.length - (i + 1) < ps.length - i; omega)
      rw [tkN hp, allNm_snoc, List.mem_append] at hs
      exact hs.elim (hok s) (hok2 s)
  ·
    have hie : i = ps.length := by omega
    subst hie
    rw [List.take_of_length_le (by simp)] at hok
    have hz : nmErr (allNm (nds ps)) = 0 := nmErr_zero hok
    refine Sl.nil ?_
    refine At.go ?_
    refine Sc.seq ?_
    refine Sc.cond_f rfl ?_
    refine Sc.exit ?_
    refine At.then_exit ?_
    refine At.then_exit ?_
    refine At.block_hit ?_
    refine At.go ?_
    refine Sc.seq ?_
    refine Sc.seq ?_
    refine Sc.region ?_
    refine Sl.calm (Cm.move rfl) rfl ?_
    refine Sl.calm (Cm.len sl22 rfl) rfl ?_
    refine Sl.calm (Cm.move rfl) rfl ?_
    refine Sl.nil ?_
    refine At.go ?_
    refine Sc.block ?_
    refine Sc.loop (β := Nat) (fun i => [(0, .slice lo ps.length lc), (37, .slice lo ps.length lc), (38, .int .i64 ps.length), (39, .int .i64 i)]) (fun i w => i ≤ ps.length ∧ (∀ n ∈ (nds ps).take i, ¬ 16 < n.names.length) ∧ Foot nob W w) (fun i => ps.length - i) 0 ⟨rfl, rfl, rfl, rfl, trivial⟩ ⟨Nat.zero_le _, by simp, hF2⟩ ?_
    rintro i w2 ⟨hi, hdp, hF2⟩
    refine Sc.seq ?_
    refine Sc.region ?_
    refine Sl.fork (Cm.lss rfl rfl) rfl (fun h40 => ?_) (fun h40 => ?_)
    ·
      have hil : i < ps.length := by omega
      obtain ⟨p, hp⟩ : ∃ p, ps[i]? = some p := ⟨_, List.getElem?_eq_getElem hil⟩
      have hpm := List.mem_of_getElem? hp
      have hv2 := hv.grow hF2
      refine Sl.nil ?_
      refine At.go ?_
      refine Sc.seq ?_
      refine Sc.cond_t rfl ?_
      refine Sc.skip ?_
      refine At.go ?_
      refine Sc.seq ?_
      refine Sc.block ?_
      refine Sc.seq ?_
      refine Sc.region ?_
      refine Sl.calm (Cm.indexAddr sl22 rfl rfl hv2.1.non (by omega)) rfl ?_
      refine Sl.calm (Cm.ldM (cs := encN p) agg34 rfl (fun j v hj => hv2.1.rowZ i rfl hp j v hj)) rfl ?_
      refine Sl.allocC zc34 rfl ?_
      intro w4 hg4 hs4 hf4
      obtain ⟨q, hq⟩ : ∃ q, q = w2.heap.size := ⟨_, rfl⟩
      rw [← hq] at hg4 ⊢
      refine Sl.storeAll (vs := encN p) agg34 rfl rfl (encN_cells p).2 hg4 rfl ?_
      intro w5 hg5 hs5 hf5
      have hF5 : Foot nob W w5 := hF2.trans (hf4.trans_to hf5 (fun k e => .inr (by have e : k = q := e; omega)))
      have hn5 := ((hv.grow hF5).2 p hpm).1
      refine Sl.nil ?_
      refine At.weak [(0, _), (10, _), (37, _), (38, _), (39, _), (40, _)] ⟨rfl, rfl, rfl, rfl, rfl, rfl, trivial⟩ ?_
      refine At.go ?_
      refine Sc.seq ?_
      refine Sc.region ?_
      refine Sl.calm (Cm.field fld34_0 rfl) rfl ?_
      refine Sl.calm (Cm.ld sca28 rfl (cellF hg5 rfl)) rfl ?_
      refine Sl.calm (Cm.len sl28 rfl) rfl ?_
      rw [hn5.1]
      refine Sl.fork (Cm.gtr rfl rfl) rfl (fun h46 => ?_) (fun h46 => ?_)
      ·
        refine Sl.nil ?_
        refine At.weak [(0, _), (10, _), (37, _), (38, _), (39, _), (40, _), (46, _)] ⟨rfl, rfl, rfl, rfl, rfl, rfl, rfl, trivial⟩ ?_
        refine At.go ?_
        refine Sc.cond_t rfl ?_
        refine Sc.seq ?_
        refine Sc.region ?_
        refine Sl.calm (Cm.assign rfl) rfl ?_
        refine Sl.calm (Cm.assign rfl) rfl ?_
        refine Sl.nil ?_
        refine At.go ?_
        refine Sc.ret ?_
        refine At.block_ret ?_
        refine At.then_ret ?_
        refine At.then_ret ?_
        refine At.block_ret ?_
        refine At.then_ret ?_
        refine At.ret2 rfl rfl rfl ?_
        exact ⟨_, rfl, 9, (by unfold nmd; rw [if_neg (fun h => h hz), if_pos ⟨p.2, List.mem_of_getElem? (nds_get hp), by omega⟩]), hF5, .inl ⟨by decide, rfl⟩⟩
      ·
        refine Sl.nil ?_
        refine At.weak [(0, _), (10, _), (37, _), (38, _), (39, _), (40, _), (46, _)] ⟨rfl, rfl, rfl, rfl, rfl, rfl, rfl, trivial⟩ ?_
        refine At.go ?_
        refine Sc.cond_f rfl ?_
        refine Sc.skip ?_
        refine At.block_normal ?_
        refine At.go ?_
        refine Sc.region ?_
        refine Sl.calm (Cm.add64 rfl rfl (by omega)) rfl ?_
        refine Sl.calm (Cm.move rfl) rfl ?_
        refine Sl.nil ?_
        exact At.again (i + 1) ⟨rfl, rfl, rfl, rfl, trivial⟩ ⟨by omega, allT hp hdp (by omega), hF5⟩ (by show ps.length - (i + 1) < ps.length - i; omega)
    ·
      have hie : i = ps.length := by omega
      subst hie
      rw [List.take_of_length_le (by simp)] at hdp
      have hd : ¬ ∃ n ∈ nds ps, 16 < n.names.length := fun ⟨n, hn, h⟩ => hdp n hn h
      refine Sl.nil ?_
      refine At.go ?_
      refine Sc.seq ?_
      refine Sc.cond_f rfl ?_
      refine Sc.exit ?_
      refine At.then_exit ?_
      refine At.then_exit ?_
      refine At.block_hit ?_
      refine At.go ?_
      refine Sc.seq ?_
      refine Sc.region ?_
      refine Sl.makeMap (enc := enS) rfl ?_
      intro w3 hm3 hs3 hf3
      obtain ⟨g, hg⟩ : ∃ g, g = w2.heap.size := ⟨_, rfl⟩
      rw [← hg] at hm3 ⊢
      refine Sl.calm (Cm.assign rfl) rfl ?_
      refine Sl.nil ?_
      refine At.weak [(0, _), (11, _), (37, _), (38, _), (39, _), (40, _)] ⟨rfl, rfl, rfl, rfl, rfl, rfl, trivial⟩ ?_
      refine At.go ?_
      refine Sc.seq ?_
      refine Sc.seq ?_
      refine Sc.region ?_
      refine Sl.calm (Cm.move rfl) rfl ?_
      refine Sl.calm (Cm.len sl22 rfl) rfl ?_
      refine Sl.calm (Cm.move rfl) rfl ?_
      refine Sl.nil ?_
      refine At.go ?_
      refine Sc.block ?_
      have hF3 := hF2.trans hf3
      refine Sc.loop (β := Nat × List (SK × Value)) (fun ⟨i, m⟩ => [(0, .slice lo ps.length lc), (11, .map (some g)), (49, .slice lo ps.length lc), (50, .int .i64 ps.length), (51, .int .i64 i)]) (fun ⟨i, m⟩ w => i ≤ ps.length ∧ MapL enS w.heap g m ∧ MapN (ps.take i) m ∧ (∀ (j : Nat) (q : NdH × Nd), j < i → ps[j]? = some q → ¬ findP ps q.2.names < j) ∧ Foot nob W w) (fun ⟨i, m⟩ => ps.length - i) ⟨0, []⟩ ⟨rfl, rfl, rfl, rfl, rfl, trivial⟩ ⟨Nat.zero_le _, hm3, MapN.nil, fun j q hj => by omega, hF3⟩ ?_
      rintro ⟨i, m⟩ w4 ⟨hi, hm4, hMN, hno, hF4⟩
      refine Sc.seq ?_
      refine Sc.region ?_
      refine Sl.fork (Cm.lss rfl rfl) rfl (fun h52 => ?_) (fun h52 => ?_)
      ·
        have hil : i < ps.length := by omega
        obtain ⟨p, hp⟩ : ∃ p, ps[i]? = some p := ⟨_, List.getElem?_eq_getElem hil⟩
        have hpm := List.mem_of_getElem? hp
        have hv4 := hv.grow hF4
        have hnl : p.2.names.length ≤ 16 := by have : ¬ 16 < p.2.names.length := fun h => hd ⟨p.2, List.mem_of_getElem? (nds_get hp), h⟩; omega
        obtain ⟨hop, hsl⟩ := names_of hok (List.mem_of_getElem? (nds_get hp))
        have hpl := path_len hnl hsl
        refine Sl.nil ?_
        refine At.go ?_
        refine Sc.seq ?_
        refine Sc.cond_t rfl ?_
        refine Sc.skip ?_
        refine At.go ?_
        refine Sc.seq ?_
        refine Sc.block ?_
        refine Sc.seq ?_
        refine Sc.region ?_
        refine Sl.calm (Cm.indexAddr sl22 rfl rfl hv4.1.non (by omega)) rfl ?_
        refine Sl.calm (Cm.ldM (cs := encN p) agg34 rfl (fun j v hj => hv4.1.rowZ i rfl hp j v hj)) rfl ?_
        refine Sl.allocC zc34 rfl ?_
        intro w5 hg5 hs5 hf5
        obtain ⟨q, hq⟩ : ∃ q, q = w4.heap.size := ⟨_, rfl⟩
        rw [← hq] at hg5 ⊢
        refine Sl.storeAll (vs := encN p) agg34 rfl rfl (encN_cells p).2 hg5 rfl ?_
        intro w6 hg6 hs6 hf6
        have hf46 : Foot nob w4 w6 := hf5.trans_to hf6 (fun k e => .inr (by have e : k = q := e; omega))
        have hF6 : Foot nob W w6 := hF4.trans hf46
        have hn6 := ((hv.grow hF6).2 p hpm).1
        have hm6 := hm4.keep hf46 id
        have hgq : g < q := by rw [hq]; exact hm4.obj
        refine Sl.nil ?_
        refine At.weak [(0, _), (11, _), (13, _), (49, _), (50, _), (51, _), (52, _)] ⟨rfl, rfl, rfl, rfl, rfl, rfl, rfl, trivial⟩ ?_
        refine At.go ?_
        refine Sc.seq ?_
        refine Sc.region ?_
        refine Sl.calm (Cm.field fld34_0 rfl) rfl ?_
        refine Sl.calm (Cm.ld sca28 rfl (cellF hg6 rfl)) rfl ?_
        refine Sl.call fn28 rfl ((by show Calls _ _ [Value.slice p.1.names.a p.1.names.n p.1.names.c].toArray _ _; rw [hn6.1]; exact nJoin_ok _ _ _ w6 hn6.2.1 (by omega) hsl)) rfl ?_
        rintro _ w7 ⟨rfl, hf7⟩
        have hm7 := hm6.keep hf7 id
        have hg7 := hf7.obj hg6 id
        refine Sl.calm (Cm.assign rfl) rfl ?_
        refine Sl.nil ?_
        refine At.weak [(0, _), (11, _), (13, _), (14, _), (49, _), (50, _), (51, _), (52, _)] ⟨rfl, rfl, rfl, rfl, rfl, rfl, rfl, rfl, trivial⟩ ?_
        refine At.go ?_
        refine Sc.seq ?_
        refine Sc.seq ?_
        refine Sc.region ?_
        refine Sl.calm (Cm.move rfl) rfl ?_
        refine Sl.calm (Cm.move rfl) rfl ?_
        refine Sl.calm (Cm.ofEq (u := .tuple [.agg (encN (atN (ps.take i) p.2.names)).toArray, .bool (decide (hasN (ps.take i) p.2.names))].toArray) (Cm.lookupOk mpN keyS (a := (⟨pathL p.2.names, hpl⟩ : SK)) rfl rfl (fun _ e => by rw [e]; exact hm7)) (by rw [hMN.z hop hpl, hMN.is hop hpl])) rfl ?_
        refine Sl.calm (Cm.move rfl) rfl ?_
        refine Sl.calm (Cm.extract rfl rfl) rfl ?_
        refine Sl.calm (Cm.extract rfl rfl) rfl ?_
        by_cases h63 : hasN (ps.take i) p.2.names
        ·
          rw [decide_eq_true h63]
          refine Sl.allocC zc34 rfl ?_
          intro w8 hg8 hs8 hf8
          obtain ⟨r, hr⟩ : ∃ r, r = w7.heap.size := ⟨_, rfl⟩
          rw [← hr] at hg8 ⊢
          refine Sl.storeAll (vs := encN (atN (ps.take i) p.2.names)) agg34 rfl rfl (encN_cells _).2 hg8 rfl ?_
          intro w9 hg9 hs9 hf9
          have hf79 : Foot nob w7 w9 := hf8.trans_to hf9 (fun k e => .inr (by have e : k = r := e; omega))
          have hF9 : Foot nob W w9 := (hF6.trans hf7).trans hf79
          have hm9 := hm7.keep hf79 id
          have hgn := hf79.obj hg7 id
          refine Sl.calm (Cm.assign rfl) rfl ?_
          refine Sl.nil ?_
          refine At.weak [(0, _), (11, _), (13, _), (14, _), (16, _), (49, _), (50, _), (51, _), (52, _)] ⟨rfl, rfl, rfl, rfl, rfl, rfl, rfl, rfl, rfl, trivial⟩ ?_
          refine At.go ?_
          refine Sc.seq ?_
          refine Sc.region ?_
          refine Sl.calm (Cm.move rfl) rfl ?_
          refine Sl.nil ?_
          refine At.go ?_
          refine Sc.cond_t rfl ?_
          refine Sc.seq ?_
          refine Sc.region ?_
          refine Sl.calm (Cm.assign rfl) rfl ?_
          refine Sl.calm (Cm.assign rfl) rfl ?_
          refine Sl.nil ?_
          refine At.go ?_
          refine Sc.ret ?_
          refine At.then_ret ?_
          refine At.block_ret ?_
          refine At.then_ret ?_
          refine At.then_ret ?_
          refine At.block_ret ?_
          refine At.then_ret ?_
          refine At.ret2 rfl rfl rfl ?_
          exact ⟨_, rfl, 6, (by unfold nmd; rw [if_neg (fun h => h hz), if_neg hd, if_pos (twice_in hp h63)]), hF9, .inl ⟨by decide, rfl⟩⟩
        ·
          rw [decide_eq_false h63]
          refine Sl.allocC zc34 rfl ?_
          intro w8 hg8 hs8 hf8
          obtain ⟨r, hr⟩ : ∃ r, r = w7.heap.size := ⟨_, rfl⟩
          rw [← hr] at hg8 ⊢
          refine Sl.storeAll (vs := encN (atN (ps.take i) p.2.names)) agg34 rfl rfl (encN_cells _).2 hg8 rfl ?_
          intro w9 hg9 hs9 hf9
          have hf79 : Foot nob w7 w9 := hf8.trans_to hf9 (fun k e => .inr (by have e : k = r := e; omega))
          have hF9 : Foot nob W w9 := (hF6.trans hf7).trans hf79
          have hm9 := hm7.keep hf79 id
          have hgn := hf79.obj hg7 id
          refine Sl.calm (Cm.assign rfl) rfl ?_
          refine Sl.nil ?_
          refine At.weak [(0, _), (11, _), (13, _), (14, _), (16, _), (49, _), (50, _), (51, _), (52, _)] ⟨rfl, rfl, rfl, rfl, rfl, rfl, rfl, rfl, rfl, trivial⟩ ?_
          refine At.go ?_
          refine Sc.seq ?_
          refine Sc.region ?_
          refine Sl.calm (Cm.move rfl) rfl ?_
          refine Sl.nil ?_
          refine At.go ?_
          refine Sc.cond_f rfl ?_
          refine Sc.skip ?_
          refine At.go ?_
          refine Sc.region ?_
          refine Sl.calm (Cm.move rfl) rfl ?_
          refine Sl.calm (Cm.move rfl) rfl ?_
          refine Sl.calm (Cm.ldM (cs := encN p) agg34 rfl (cellsF hgn 0 rfl)) rfl ?_
          refine Sl.mapUpdate mpN keyS (a := (⟨pathL p.2.names, hpl⟩ : SK)) rfl rfl rfl hm9 ?_
          intro w10 hm10 hs10 hf10
          have hF10 : Foot nob W w10 := hF9.trans_to hf10 (fun k e => .inr (by have e : k = g := e; have := hF2.size; omega))
          refine Sl.nil ?_
          refine At.block_normal ?_
          refine At.weak [(0, _), (11, _), (13, _), (14, _), (16, _), (49, _), (50, _), (51, _), (52, _), (64, _)] ⟨rfl, rfl, rfl, rfl, rfl, rfl, rfl, rfl, rfl, rfl, trivial⟩ ?_
          refine At.go ?_
          refine Sc.region ?_
          refine Sl.calm (Cm.add64 rfl rfl (by omega)) rfl ?_
          refine Sl.calm (Cm.move rfl) rfl ?_
          refine Sl.nil ?_
          refine At.again ⟨i + 1, _⟩ ⟨rfl, rfl, rfl, rfl, rfl, trivial⟩ ⟨by omega, hm10, ?_, fun j q hj hq => ?_, hF10⟩ (by show ps.length - (i + 1) < ps.length - i; omega)
          · rw [tkL hp]; exact hMN.snoc hop h63 hpl
          · by_cases e : j = i
            · subst e; rw [hp] at hq; cases hq; exact notin_find hp h63
            · exact hno j q (by omega) hq
      ·
        have hie : i = ps.length := by omega
        subst hie
        rw [List.take_length] at hMN
        refine Sl.nil ?_
        refine At.go ?_
        refine Sc.seq ?_
        refine Sc.cond_f rfl ?_
        refine Sc.exit ?_
        refine At.then_exit ?_
        refine At.then_exit ?_
        refine At.block_hit ?_
        refine At.go ?_
        refine Sc.seq ?_
        refine Sc.region ?_
        refine Sl.calm (Cm.move rfl) rfl ?_
        refine Sl.calm (Cm.assign rfl) rfl ?_
        refine Sl.calm (Cm.assign rfl) rfl ?_
        refine Sl.nil ?_
        refine At.weak [(0, _), (2, _), (3, _), (11, _), (49, _), (50, _), (51, _), (52, _)] ⟨rfl, rfl, rfl, rfl, rfl, rfl, rfl, rfl, trivial⟩ ?_
        refine At.go ?_
        refine Sc.ret ?_
        refine At.ret2 rfl rfl rfl ?_
        exact ⟨_, rfl, 0, (by unfold nmd; rw [if_neg (fun h => h hz), if_neg hd, if_neg (twice_not fun i p h => hno i p (List.getElem?_eq_some_iff.1 h).1 h)]), hF4, .inr ⟨rfl, g, m, rfl, hm4, hMN⟩⟩
end Go.Proofs.Ytpnfjfbfgaiolaa
