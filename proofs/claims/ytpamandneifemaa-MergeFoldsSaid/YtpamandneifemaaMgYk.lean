/- merge: the laws MergeTree, MergeOne, MergeSame. No condition beyond the bounds that each states. -/
import Derived.Test.YtpamandneifemaaMgTk
import Derived.Test.YtpamandneifemaaMgLk
namespace Go.Proofs.Ytpamandneifemaa
open Go Go.RowKit Go.Maps
set_option linter.unusedVariables false

theorem gduU {Ls : Lys} (h : ∀ ps ∈ Ls, GdU ps) : ∀ ps ∈ Ls, okU (nds ps) := fun ps hp => (h ps hp).1
theorem good_sm {zs : List (NdH × Nd)} (h : good (nds zs)) : ∀ z ∈ zs, smN z.2 := fun z hz => by
  have hm : z.2 ∈ nds zs := List.mem_map.2 ⟨z, hz, rfl⟩
  exact may_sm (h.2.2.2.2.2.2.1 z.2 hm) (h.2.1 z.2 hm)
theorem vis_nil : visL [] = [] := rfl
theorem can_nil : canP [] = [] := by
  have := (srt_perm []).length_eq
  exact List.length_eq_zero_iff.1 (by show ((srtP []).map _).length = 0; rw [List.length_map]; exact this)
theorem lys1 {D : Nat → Prop} {H : Array Obj} {o : Option Addr} {c : Nat} {h : Hd} {ps : List (NdH × Nd)} (ho : Own hd 25 H o c [h]) (v : NodesV D H h.a h.c ps) (n : h.n = ps.length) : LysV D H o c [h] [ps] :=
  ⟨ho.vw, rfl, fun i h' ps' e1 e2 => by
    match i, e1, e2 with
    | 0, e1, e2 => cases e1; cases e2; exact ⟨n, v⟩⟩
theorem lys2D {D : Nat → Prop} {H : Array Obj} {o : Option Addr} {c : Nat} {h1 h2 : Hd} {p1 p2 : List (NdH × Nd)} (ho : Own hd 25 H o c [h1, h2]) (v1 : NodesV D H h1.a h1.c p1) (v2 : NodesV D H h2.a h2.c p2) (n1 : h1.n = p1.length) (n2 : h2.n = p2.length) : LysV D H o c [h1, h2] [p1, p2] :=
  ⟨ho.vw, rfl, fun i h ps e1 e2 => by
    match i, e1, e2 with
    | 0, e1, e2 => cases e1; cases e2; exact ⟨n1, v1⟩
    | 1, e1, e2 => cases e1; cases e2; exact ⟨n2, v2⟩⟩
variable {D D' : Nat → Prop}
set_option maxHeartbeats 2000000 in
theorem mergeTree_ok (lo : Option Addr) (lc : Nat) (hs : List Hd) (Ls : Lys) (W : World) (hv : LysV D W.heap lo lc hs Ls) (hw : ∀ ps ∈ Ls, ∀ p ∈ ps, okN p.2 ∧ smN p.2) :
    Calls Try.prog 6 [.slice lo Ls.length lc].toArray W (Ret fun v w' => v = .bool true ∧ Foot nob W w') := by
  refine calls_of_sc 25 [(0, _)] Try.func6 rfl rfl rfl (enter_slots ⟨rfl, trivial⟩) ?_
  refine Sc.seq ?_
  refine Sc.region ?_
  refine Sl.calm (Cm.assign rfl) rfl ?_
  refine Sl.nil ?_
  refine At.go ?_
  refine Sc.seq ?_
  refine Sc.region ?_
  refine Sl.call fn10 rfl (mshown_ok W) rfl ?_
  rintro _ w1 ⟨rfl, hf1⟩
  refine Sl.calm (Cm.assign rfl) rfl ?_
  refine Sl.nil ?_
  refine At.weak [(0, _), (2, _), (3, _)] ⟨rfl, rfl, rfl, trivial⟩ ?_
  refine At.go ?_
  refine Sc.seq ?_
  refine Sc.region ?_
  refine Sl.calm (Cm.move rfl) rfl ?_
  refine Sl.call fn11 rfl (fewU_ok lo lc hs Ls w1 (hv.grow hf1) hw) rfl ?_
  rintro _ w2 ⟨o, c, hs2, L2, rfl, hv2, hgu, hl5, hl1, hf2⟩
  have hg := gduA hgu
  have hT := offU hgu hl5
  refine Sl.calm (Cm.assign rfl) rfl ?_
  refine Sl.nil ?_
  refine At.weak [(0, _), (2, _), (3, _)] ⟨rfl, rfl, rfl, trivial⟩ ?_
  refine At.go ?_
  refine Sc.seq ?_
  refine Sc.region ?_
  refine Sl.calm (Cm.move rfl) rfl ?_
  refine Sl.call fn12 rfl (merge_ok o c hs2 L2 w2 hv2 hg (by omega) (by omega)) rfl ?_
  rintro _ w3 ⟨o3, c3, zs, rfl, ho3, hzn, hzv, hfo3, hf3⟩
  refine Sl.calm (Cm.assign rfl) rfl ?_
  refine Sl.nil ?_
  refine At.weak [(0, _), (2, _), (3, _), (4, _)] ⟨rfl, rfl, rfl, rfl, trivial⟩ ?_
  refine At.go ?_
  refine Sc.seq ?_
  refine Sc.seq ?_
  refine Sc.region ?_
  refine Sl.calm (Cm.move rfl) rfl ?_
  refine Sl.calm (Cm.len sl22 rfl) rfl ?_
  refine Sl.fork (Cm.eql rfl rfl) rfl (fun h12 => ?_) (fun h12 => ?_)
  ·
    have hle : L2 = [] := List.length_eq_zero_iff.1 (by omega)
    have hze : zs = [] := by
      subst hle
      have h := congrArg List.length hzn
      rw [List.length_map, List.length_map, vis_nil, can_nil] at h
      exact List.length_eq_zero_iff.1 h
    refine Sl.nil ?_
    refine At.weak [(0, _), (2, _), (3, _), (4, _), (12, _)] ⟨rfl, rfl, rfl, rfl, rfl, trivial⟩ ?_
    refine At.go ?_
    refine Sc.cond_t rfl ?_
    refine Sc.seq ?_
    refine Sc.region ?_
    refine Sl.calm (Cm.move rfl) rfl ?_
    refine Sl.calm (Cm.move rfl) rfl ?_
    refine Sl.want rfl rfl (Cm.move rfl) rfl ?_
    refine Sl.want rfl rfl (Cm.len sl25 rfl) rfl ?_
    refine Sl.want rfl rfl (Cm.yes (Cm.eql rfl rfl) (by rw [hze]; rfl)) rfl ?_
    refine Sl.calm (Cm.pick_t rfl rfl) rfl ?_
    refine Sl.calm (Cm.assign rfl) rfl ?_
    refine Sl.nil ?_
    refine At.weak [(0, _), (2, _), (3, _), (4, _), (12, _)] ⟨rfl, rfl, rfl, rfl, rfl, trivial⟩ ?_
    refine At.go ?_
    refine Sc.ret ?_
    refine At.then_ret ?_
    refine At.ret1 rfl rfl ?_
    first
      | exact ⟨_, rfl, rfl, ((hf1.trans hf2).trans hf3).trans hf4⟩
      | exact ⟨_, rfl, rfl, (hf1.trans hf2).trans hf3⟩
  ·
    have hne : L2 ≠ [] := fun e => h12 (by rw [e]; rfl)
    have hgood : good (nds zs) := by rw [hzn]; exact can_good (vis_good (gduU hgu) hg (by omega) hne)
    refine Sl.nil ?_
    refine At.weak [(0, _), (2, _), (3, _), (4, _), (12, _)] ⟨rfl, rfl, rfl, rfl, rfl, trivial⟩ ?_
    refine At.go ?_
    refine Sc.cond_f rfl ?_
    refine Sc.skip ?_
    refine At.go ?_
    refine Sc.seq ?_
    refine Sc.region ?_
    refine Sl.calm (Cm.move rfl) rfl ?_
    refine Sl.calm (Cm.move rfl) rfl ?_
    refine Sl.want rfl rfl (Cm.move rfl) rfl ?_
    refine Sl.callWant rfl rfl fn20 rfl (rcheck_ok (D := fun _ => True) o3 c3 zs w3 (NodesV.all ho3 hzv) (good_sm hgood)) rfl ?_
    rintro _ w4 ⟨rfl, hf4⟩
    refine Sl.want rfl rfl (Cm.yes (Cm.eql rfl rfl) ((chk0_iff _).2 hgood)) rfl ?_
    refine Sl.calm (Cm.pick_t rfl rfl) rfl ?_
    refine Sl.calm (Cm.assign rfl) rfl ?_
    refine Sl.nil ?_
    refine At.weak [(0, _), (2, _), (3, _), (4, _), (12, _)] ⟨rfl, rfl, rfl, rfl, rfl, trivial⟩ ?_
    refine At.go ?_
    refine Sc.ret ?_
    refine At.ret1 rfl rfl ?_
    first
      | exact ⟨_, rfl, rfl, ((hf1.trans hf2).trans hf3).trans hf4⟩
      | exact ⟨_, rfl, rfl, (hf1.trans hf2).trans hf3⟩
def wantP (qs : List (NdH × Nd)) : List (NdH × Nd) := (qs.filter (fun p => decide (p.2.kind ≠ 4))).map offP
theorem want_tk {qs : List (NdH × Nd)} {i : Nat} {p : NdH × Nd} (hp : qs[i]? = some p) : wantP (qs.take (i + 1)) = wantP (qs.take i) ++ if p.2.kind ≠ 4 then [offP p] else [] := by
  unfold wantP
  rw [tkL hp, List.filter_append, List.map_append]
  congr 1
  by_cases h : p.2.kind ≠ 4
  · rw [if_pos h]; simp [h]
  · rw [if_neg h]; simp at h; simp [h]
theorem want_len (qs : List (NdH × Nd)) : (wantP qs).length ≤ qs.length := by unfold wantP; rw [List.length_map]; exact List.length_filter_le _ _
set_option maxHeartbeats 4000000 in
theorem mergeOne_ok (lo : Option Addr) (lc : Nat) (ps : List (NdH × Nd)) (W : World) (hv : NodesV D W.heap lo lc ps) (hw : ∀ p ∈ ps, okN p.2 ∧ smN p.2) :
    Calls Try.prog 4 [.slice lo ps.length lc].toArray W (Ret fun v w' => v = .bool true ∧ Foot nob W w') := by
  refine calls_of_sc 52 [(0, _)] Try.func4 rfl rfl rfl (enter_slots ⟨rfl, trivial⟩) ?_
  refine Sc.seq ?_
  refine Sc.region ?_
  refine Sl.calm (Cm.assign rfl) rfl ?_
  refine Sl.nil ?_
  refine At.go ?_
  refine Sc.seq ?_
  refine Sc.region ?_
  refine Sl.call fn10 rfl (mshown_ok W) rfl ?_
  rintro _ w1 ⟨rfl, hf1⟩
  refine Sl.calm (Cm.assign rfl) rfl ?_
  refine Sl.nil ?_
  refine At.weak [(0, _), (2, _), (3, _)] ⟨rfl, rfl, rfl, trivial⟩ ?_
  refine At.go ?_
  refine Sc.seq ?_
  refine Sc.region ?_
  refine Sl.calm (Cm.move rfl) rfl ?_
  refine Sl.lit1 (enc := hd) (u := ⟨lo, ps.length, lc⟩) sl22 (hd_one _) rfl rfl ?_
  intro w2 ho2 hs2 hf2
  have hf12 := hf1.trans hf2
  refine Sl.call fn11 rfl (fewU_ok (some ⟨w1.heap.size, 0, none⟩) 1 [⟨lo, ps.length, lc⟩] [ps] w2 (lys1 ho2 (hv.grow hf12) rfl) (fun q hq => by rw [List.mem_singleton] at hq; subst hq; exact hw)) rfl ?_
  rintro _ w3 ⟨o, c, hs2, L2, rfl, hv3, hgu, hl5, hl1, hf3⟩
  have hg := gduA hgu
  have hT := offU hgu hl5
  have hF3 := hf12.trans hf3
  have hl1 : L2.length ≤ 1 := hl1
  refine Sl.calm (Cm.assign rfl) rfl ?_
  refine Sl.nil ?_
  refine At.weak [(0, _), (2, _), (3, _), (4, _)] ⟨rfl, rfl, rfl, rfl, trivial⟩ ?_
  refine At.go ?_
  refine Sc.seq ?_
  refine Sc.seq ?_
  refine Sc.region ?_
  refine Sl.calm (Cm.move rfl) rfl ?_
  refine Sl.calm (Cm.len sl22 rfl) rfl ?_
  refine Sl.fork (Cm.eql rfl rfl) rfl (fun h16 => ?_) (fun h16 => ?_)
  ·
    refine Sl.nil ?_
    refine At.weak [(0, _), (2, _), (3, _), (4, _), (16, _)] ⟨rfl, rfl, rfl, rfl, rfl, trivial⟩ ?_
    refine At.go ?_
    refine Sc.cond_t rfl ?_
    refine Sc.seq ?_
    refine Sc.region ?_
    refine Sl.calm (Cm.move rfl) rfl ?_
    refine Sl.calm (Cm.assign rfl) rfl ?_
    refine Sl.nil ?_
    refine At.weak [(0, _), (2, _), (3, _), (4, _), (16, _)] ⟨rfl, rfl, rfl, rfl, rfl, trivial⟩ ?_
    refine At.go ?_
    refine Sc.ret ?_
    refine At.then_ret ?_
    refine At.ret1 rfl rfl ?_
    first
      | exact ⟨_, rfl, rfl, (hF3.trans hF5).trans ((hf6.trans hf7).trans (hf8.trans hf9))⟩
      | exact ⟨_, rfl, rfl, hF3⟩
  ·
    obtain ⟨qs, rfl⟩ : ∃ qs, L2 = [qs] := by
      rcases L2 with _ | ⟨a, _ | ⟨b, r⟩⟩
      · exact absurd rfl h16
      · exact ⟨a, rfl⟩
      · simp at hl1
    have hgq := hgu qs (by simp)
    obtain ⟨h, hh, _, hn, hvn⟩ := hv3.lay (i := 0) (by simp)
    have hn : h.n = qs.length := hn
    have hvn : NodesV D w3.heap h.a h.c qs := hvn
    have hq25 := hgq.2.1
    refine Sl.nil ?_
    refine At.weak [(0, _), (2, _), (3, _), (4, _), (16, _)] ⟨rfl, rfl, rfl, rfl, rfl, trivial⟩ ?_
    refine At.go ?_
    refine Sc.cond_f rfl ?_
    refine Sc.skip ?_
    refine At.go ?_
    refine Sc.seq ?_
    refine Sc.region ?_
    refine Sl.lit0M encN_cells sl25 rfl ?_
    intro w4 ho4 hs4 hf4
    refine Sl.calm (Cm.assign rfl) rfl ?_
    refine Sl.nil ?_
    refine At.weak [(0, _), (2, _), (3, _), (4, _), (5, _), (16, _)] ⟨rfl, rfl, rfl, rfl, rfl, rfl, trivial⟩ ?_
    refine At.go ?_
    refine Sc.seq ?_
    refine Sc.seq ?_
    refine Sc.region ?_
    refine Sl.calm (Cm.assign rfl) rfl ?_
    refine Sl.nil ?_
    refine At.go ?_
    refine Sc.block ?_
    refine Sc.loop (β := Nat × Option Addr × Nat) (fun ⟨i, oo, co⟩ => [(3, .bool true), (4, .slice o [qs].length c), (5, .slice oo (wantP (qs.take i)).length co), (6, .int .i64 i)]) (fun ⟨i, oo, co⟩ w => i ≤ qs.length ∧ OwnM 10 encN 35 w.heap oo co (wantP (qs.take i)) ∧ Fr w3.heap.size oo ∧ Foot nob w3 w) (fun ⟨i, oo, co⟩ => qs.length - i) ⟨0, some ⟨w3.heap.size, 0, none⟩, 0⟩ ⟨rfl, rfl, rfl, rfl, trivial⟩ ⟨Nat.zero_le _, ho4, fun a ha => by cases ha; exact Nat.le_refl _, hf4⟩ ?_
    rintro ⟨i, oo, co⟩ w5 ⟨hi, ho5, hfo, hF5⟩
    refine Sc.seq ?_
    refine Sc.seq ?_
    refine Sc.region ?_
    refine Sl.calm (Cm.move rfl) rfl ?_
    refine Sl.calm (Cm.move rfl) rfl ?_
    have hv5 := hv3.grow hF5
    have hvn5 := hvn.grow hF5
    refine Sl.calm (Cm.indexAddr1 sl22 rfl rfl hv5.non (by simp)) rfl ?_
    refine Sl.calm (Cm.ofEq (u := .slice h.a qs.length h.c) (Cm.ld sca25 rfl (hv5.1.get 0 h hh)) (by rw [← hn]; rfl)) rfl ?_
    refine Sl.calm (Cm.len sl25 rfl) rfl ?_
    refine Sl.fork (Cm.lss rfl rfl) rfl (fun h24 => ?_) (fun h24 => ?_)
    ·
      have hil : i < qs.length := by omega
      obtain ⟨p, hp⟩ : ∃ p, qs[i]? = some p := ⟨_, List.getElem?_eq_getElem hil⟩
      have hwl := want_len (qs.take i)
      rw [List.length_take] at hwl
      have hwt := want_tk hp
      refine Sl.nil ?_
      refine At.weak [(3, _), (4, _), (5, _), (6, _), (24, _)] ⟨rfl, rfl, rfl, rfl, rfl, trivial⟩ ?_
      refine At.go ?_
      refine Sc.cond_t rfl ?_
      refine Sc.skip ?_
      refine At.go ?_
      refine Sc.seq ?_
      refine Sc.block ?_
      refine Sc.seq ?_
      refine Sc.region ?_
      refine Sl.calm (Cm.move rfl) rfl ?_
      refine Sl.calm (Cm.indexAddr1 sl22 rfl rfl hv5.non (by simp)) rfl ?_
      refine Sl.calm (Cm.ofEq (u := .slice h.a qs.length h.c) (Cm.ld sca25 rfl (hv5.1.get 0 h hh)) (by rw [← hn]; rfl)) rfl ?_
      refine Sl.calm (Cm.move rfl) rfl ?_
      refine Sl.calm (Cm.indexAddr sl25 rfl rfl hvn5.1.non (by omega)) rfl ?_
      refine Sl.calm (Cm.ldM (cs := encN p) agg35 rfl (fun j v hj => hvn5.1.rowZ i rfl hp j v hj)) rfl ?_
      refine Sl.allocC zc35 rfl ?_
      intro w6 hg6 hs6 hf6
      obtain ⟨r, er⟩ : ∃ r, r = w5.heap.size := ⟨_, rfl⟩
      rw [← er] at hg6 ⊢
      refine Sl.storeAll (vs := encN p) agg35 rfl rfl (encN_cells p).2 hg6 rfl ?_
      intro w7 hg7 hs7 hf7
      refine Sl.nil ?_
      refine At.weak [(3, _), (4, _), (5, _), (6, _), (7, _), (24, _)] ⟨rfl, rfl, rfl, rfl, rfl, rfl, trivial⟩ ?_
      refine At.go ?_
      refine Sc.seq ?_
      refine Sc.region ?_
      refine Sl.calm (Cm.field fld35_7 rfl) rfl ?_
      refine Sl.store sca4 rfl rfl rfl hg7 rfl ?_
      intro w8 hg8 hs8 hf8
      have hg8 : w8.heap[r]? = some (.cells (encN (offP p)).toArray 35 (0, 0)) := hg8
      have hf58 : Foot nob w5 w8 := hf6.trans_to (hf7.trans hf8) (fun k e => .inr (by have e : k = r := e; omega))
      have ho8 := ho5.grow hf58
      have hF8 := hF5.trans hf58
      refine Sl.nil ?_
      refine At.weak [(3, _), (4, _), (5, _), (6, _), (7, _), (24, _)] ⟨rfl, rfl, rfl, rfl, rfl, rfl, trivial⟩ ?_
      refine At.go ?_
      refine Sc.seq ?_
      refine Sc.region ?_
      refine Sl.calm (Cm.field fld35_2 rfl) rfl ?_
      refine Sl.calm (Cm.ld sca3 rfl (cellF hg8 rfl)) rfl ?_
      refine Sl.fork (Cm.neq rfl rfl) rfl (fun h36 => ?_) (fun h36 => ?_)
      ·
        have hk : p.2.kind ≠ 4 := h36
        rw [if_pos hk] at hwt
        refine Sl.nil ?_
        refine At.weak [(3, _), (4, _), (5, _), (6, _), (7, _), (24, _), (36, _)] ⟨rfl, rfl, rfl, rfl, rfl, rfl, rfl, trivial⟩ ?_
        refine At.go ?_
        refine Sc.cond_t rfl ?_
        refine Sc.region ?_
        refine Sl.calm (Cm.move rfl) rfl ?_
        refine Sl.calm (Cm.ldM (cs := encN (offP p)) agg35 rfl (cellsF hg8 0 rfl)) rfl ?_
        obtain ⟨y, hy⟩ : ∃ y, y = offP p := ⟨_, rfl⟩
        rw [← hy]
        refine Sl.litG sl25 (cs := (encN y).toArray) zc35 rfl rfl rfl (by kernel_rfl) rfl ?_
        intro wA hgA hsA hfA
        have hoA : OwnM 10 encN 35 wA.heap (some ⟨w8.heap.size, 0, none⟩) 1 [y] := ownM_new (xs := [y]) encN_cells (by simpa using hgA) (by show 1 ≤ maxLen; decide)
        refine Sl.appendM encN_cells rfl sl25 rfl rfl (ho8.grow hfA) (hoA.vw encN_cells) (by simp only [List.length_singleton]; omega) (by simp only [List.length_singleton]; unfold maxLen; omega) rfl ?_
        intro oB cB wB hoB hfB hrB hnB
        rw [hy, ← hwt] at hoB ⊢
        have hFB : Foot nob w3 wB := (hF8.trans hfA).trans_to hfB hfo.step
        have hfoB : Fr w3.heap.size oB := fr_app hfo hrB (by have := hF8.size; have := hfA.size; omega)
        refine Sl.calm (Cm.assign rfl) rfl ?_
        refine Sl.nil ?_
        refine At.block_normal ?_
        refine At.weak [(3, _), (4, _), (5, _), (6, _), (7, _), (24, _), (36, _)] ⟨rfl, rfl, rfl, rfl, rfl, rfl, rfl, trivial⟩ ?_
        refine At.go ?_
        refine Sc.region ?_
        refine Sl.calm (Cm.move rfl) rfl ?_
        refine Sl.calm (Cm.add64 rfl rfl (by omega)) rfl ?_
        refine Sl.calm (Cm.assign rfl) rfl ?_
        refine Sl.nil ?_
        first
          | exact At.again ⟨i + 1, oB, cB⟩ ⟨rfl, rfl, rfl, rfl, trivial⟩ ⟨by omega, hoB, hfoB, hFB⟩ (by show qs.length - (i + 1) < qs.length - i; omega)
          | exact At.again ⟨i + 1, oo, co⟩ ⟨rfl, rfl, congrArg (fun n => some (Value.slice oo n co)) (by rw [hwt]), rfl, trivial⟩ ⟨by omega, by rw [hwt]; exact ho8, hfo, hF8⟩ (by show qs.length - (i + 1) < qs.length - i; omega)
      ·
        have hk : ¬ p.2.kind ≠ 4 := h36
        rw [if_neg hk, List.append_nil] at hwt
        refine Sl.nil ?_
        refine At.weak [(3, _), (4, _), (5, _), (6, _), (7, _), (24, _), (36, _)] ⟨rfl, rfl, rfl, rfl, rfl, rfl, rfl, trivial⟩ ?_
        refine At.go ?_
        refine Sc.cond_f rfl ?_
        refine Sc.skip ?_
        refine At.block_normal ?_
        refine At.go ?_
        refine Sc.region ?_
        refine Sl.calm (Cm.move rfl) rfl ?_
        refine Sl.calm (Cm.add64 rfl rfl (by omega)) rfl ?_
        refine Sl.calm (Cm.assign rfl) rfl ?_
        refine Sl.nil ?_
        first
          | exact At.again ⟨i + 1, oB, cB⟩ ⟨rfl, rfl, rfl, rfl, trivial⟩ ⟨by omega, hoB, hfoB, hFB⟩ (by show qs.length - (i + 1) < qs.length - i; omega)
          | exact At.again ⟨i + 1, oo, co⟩ ⟨rfl, rfl, congrArg (fun n => some (Value.slice oo n co)) (by rw [hwt]), rfl, trivial⟩ ⟨by omega, by rw [hwt]; exact ho8, hfo, hF8⟩ (by show qs.length - (i + 1) < qs.length - i; omega)
    ·
      have hie : i = qs.length := by omega
      have hwi : wantP (qs.take i) = wantP qs := by rw [hie, List.take_length]
      refine Sl.nil ?_
      refine At.weak [(3, _), (4, _), (5, _), (6, _), (24, _)] ⟨rfl, rfl, rfl, rfl, rfl, trivial⟩ ?_
      refine At.go ?_
      refine Sc.cond_f rfl ?_
      refine Sc.exit ?_
      refine At.then_exit ?_
      refine At.then_exit ?_
      refine At.block_hit ?_
      refine At.go ?_
      refine Sc.seq ?_
      refine Sc.region ?_
      refine Sl.calm (Cm.move rfl) rfl ?_
      refine Sl.call fn12 rfl (merge_ok o c hs2 [qs] w5 (hv3.grow hF5) hg (by simp) (by omega)) rfl ?_
      rintro _ w6 ⟨o6, c6, zs, rfl, ho6, hzn, hzv, hfo6, hf6⟩
      have hvw : NodesV D w6.heap oo co (wantP (qs.take i)) := ⟨(ho5.grow hf6).vw encN_cells, fun x hx => by
        rw [hwi] at hx
        obtain ⟨p, hp, rfl⟩ := List.mem_map.1 hx
        exact (hvn.grow (hF5.trans hf6)).2 p (List.mem_filter.1 hp).1⟩
      have hone := one_vis hgq.1.1 hg
      have hwe : wantP (qs.take i) = visL [qs] := hwi.trans hone.symm
      have hwl2 : (wantP (qs.take i)).length ≤ 25 := by rw [hwi]; have := want_len qs; omega
      refine Sl.calm (Cm.assign rfl) rfl ?_
      refine Sl.nil ?_
      refine At.weak [(3, _), (4, _), (5, _), (6, _), (8, _), (24, _)] ⟨rfl, rfl, rfl, rfl, rfl, rfl, trivial⟩ ?_
      refine At.go ?_
      refine Sc.seq ?_
      refine Sc.region ?_
      refine Sl.calm (Cm.move rfl) rfl ?_
      refine Sl.calm (Cm.move rfl) rfl ?_
      refine Sl.call fn16 rfl (rsorted_ok oo co (wantP (qs.take i)) w6 hvw (by omega)) rfl ?_
      rintro _ w7 ⟨o7, c7, ys, rfl, ho7, hfo7, hyp, hys, hf7⟩
      have hyl := hyp.length_eq
      have hey : ys = srtP (visL [qs]) := by rw [hwe] at hyp; exact srt_uniq (visL_tw hg) hyp hys
      have hcan : numP ys = canP (visL [qs]) := by rw [hey]; rfl
      refine Sl.call fn15 rfl (rnum_ok o7 c7 ys w7 (ho7.vw encN_cells) (by omega)) rfl ?_
      rintro _ w8 ⟨o8, c8, rfl, ho8, hfo8, hf8⟩
      refine Sl.call fn14 rfl (rsameN_ok (D := fun _ => True) (D' := D) o6 o8 c6 c8 zs (numP ys) w8 ((NodesV.all ho6 hzv).grow (hf7.trans hf8)) ⟨ho8.vw encN_cells, num_v (fun y hy => (hvw.2 y (hyp.mem_iff.1 hy)).grow (hf7.trans hf8))⟩) rfl ?_
      rintro v9 w9 ⟨hb, _, hf9⟩
      obtain rfl := hb.2 (by rw [hzn, hcan])
      refine Sl.calm (Cm.assign rfl) rfl ?_
      refine Sl.nil ?_
      refine At.weak [(3, _), (4, _), (5, _), (6, _), (8, _), (9, _), (24, _)] ⟨rfl, rfl, rfl, rfl, rfl, rfl, rfl, trivial⟩ ?_
      refine At.go ?_
      refine Sc.seq ?_
      refine Sc.region ?_
      refine Sl.calm (Cm.move rfl) rfl ?_
      refine Sl.calm (Cm.move rfl) rfl ?_
      refine Sl.want rfl rfl (Cm.move rfl) rfl ?_
      refine Sl.calm (Cm.pick_t rfl rfl) rfl ?_
      refine Sl.calm (Cm.assign rfl) rfl ?_
      refine Sl.nil ?_
      refine At.weak [(2, _), (3, _), (4, _), (5, _), (6, _), (8, _), (9, _), (24, _)] ⟨rfl, rfl, rfl, rfl, rfl, rfl, rfl, rfl, trivial⟩ ?_
      refine At.go ?_
      refine Sc.ret ?_
      refine At.ret1 rfl rfl ?_
      first
        | exact ⟨_, rfl, rfl, (hF3.trans hF5).trans ((hf6.trans hf7).trans (hf8.trans hf9))⟩
        | exact ⟨_, rfl, rfl, hF3⟩
set_option maxHeartbeats 4000000 in
theorem mergeSame_ok (lo : Option Addr) (lc : Nat) (ps : List (NdH × Nd)) (W : World) (hv : NodesV D W.heap lo lc ps) (hw : ∀ p ∈ ps, okN p.2 ∧ smN p.2) :
    Calls Try.prog 8 [.slice lo ps.length lc].toArray W (Ret fun v w' => v = .bool true ∧ Foot nob W w') := by
  refine calls_of_sc 51 [(0, _)] Try.func8 rfl rfl rfl (enter_slots ⟨rfl, trivial⟩) ?_
  refine Sc.seq ?_
  refine Sc.region ?_
  refine Sl.calm (Cm.assign rfl) rfl ?_
  refine Sl.nil ?_
  refine At.go ?_
  refine Sc.seq ?_
  refine Sc.region ?_
  refine Sl.call fn10 rfl (mshown_ok W) rfl ?_
  rintro _ w1 ⟨rfl, hf1⟩
  refine Sl.calm (Cm.assign rfl) rfl ?_
  refine Sl.nil ?_
  refine At.weak [(0, _), (2, _), (3, _)] ⟨rfl, rfl, rfl, trivial⟩ ?_
  refine At.go ?_
  refine Sc.seq ?_
  refine Sc.region ?_
  refine Sl.calm (Cm.move rfl) rfl ?_
  refine Sl.lit1 (enc := hd) (u := ⟨lo, ps.length, lc⟩) sl22 (hd_one _) rfl rfl ?_
  intro w2 ho2 hs2 hf2
  have hf12 := hf1.trans hf2
  refine Sl.call fn11 rfl (fewU_ok (some ⟨w1.heap.size, 0, none⟩) 1 [⟨lo, ps.length, lc⟩] [ps] w2 (lys1 ho2 (hv.grow hf12) rfl) (fun q hq => by rw [List.mem_singleton] at hq; subst hq; exact hw)) rfl ?_
  rintro _ w3 ⟨o, c, hs2, L2, rfl, hv3, hgu, hl5, hl1, hf3⟩
  have hg := gduA hgu
  have hT := offU hgu hl5
  have hF3 := hf12.trans hf3
  have hl1 : L2.length ≤ 1 := hl1
  refine Sl.calm (Cm.assign rfl) rfl ?_
  refine Sl.nil ?_
  refine At.weak [(0, _), (2, _), (3, _), (4, _)] ⟨rfl, rfl, rfl, rfl, trivial⟩ ?_
  refine At.go ?_
  refine Sc.seq ?_
  refine Sc.seq ?_
  refine Sc.region ?_
  refine Sl.calm (Cm.move rfl) rfl ?_
  refine Sl.calm (Cm.len sl22 rfl) rfl ?_
  refine Sl.fork (Cm.eql rfl rfl) rfl (fun h15 => ?_) (fun h15 => ?_)
  ·
    refine Sl.nil ?_
    refine At.weak [(0, _), (2, _), (3, _), (4, _), (15, _)] ⟨rfl, rfl, rfl, rfl, rfl, trivial⟩ ?_
    refine At.go ?_
    refine Sc.cond_t rfl ?_
    refine Sc.seq ?_
    refine Sc.region ?_
    refine Sl.calm (Cm.move rfl) rfl ?_
    refine Sl.calm (Cm.assign rfl) rfl ?_
    refine Sl.nil ?_
    refine At.weak [(0, _), (2, _), (3, _), (4, _), (15, _)] ⟨rfl, rfl, rfl, rfl, rfl, trivial⟩ ?_
    refine At.go ?_
    refine Sc.ret ?_
    refine At.then_ret ?_
    refine At.ret1 rfl rfl ?_
    first
      | exact ⟨_, rfl, rfl, hF3.trans (hf35.trans (hf6.trans hf7))⟩
      | exact ⟨_, rfl, rfl, hF3⟩
  ·
    obtain ⟨qs, rfl⟩ : ∃ qs, L2 = [qs] := by
      rcases L2 with _ | ⟨a, _ | ⟨b, r⟩⟩
      · exact absurd rfl h15
      · exact ⟨a, rfl⟩
      · simp at hl1
    have hgq := hgu qs (by simp)
    obtain ⟨h, hh, _, hn, hvn⟩ := hv3.lay (i := 0) (by simp)
    have hn : h.n = qs.length := hn
    have hvn : NodesV D w3.heap h.a h.c qs := hvn
    have hq25 := hgq.2.1
    refine Sl.nil ?_
    refine At.weak [(0, _), (2, _), (3, _), (4, _), (15, _)] ⟨rfl, rfl, rfl, rfl, rfl, trivial⟩ ?_
    refine At.go ?_
    refine Sc.cond_f rfl ?_
    refine Sc.skip ?_
    refine At.go ?_
    refine Sc.seq ?_
    refine Sc.seq ?_
    refine Sc.region ?_
    refine Sl.calm (Cm.assign rfl) rfl ?_
    refine Sl.nil ?_
    refine At.go ?_
    refine Sc.block ?_
    refine Sc.loop (β := Nat) (fun i => [(3, .bool true), (4, .slice o [qs].length c), (5, .int .i64 i)]) (fun i w => i ≤ qs.length ∧ (∀ (j : Nat) (p : NdH × Nd), j < i → qs[j]? = some p → p.2.kind ≠ 4) ∧ w = w3) (fun i => qs.length - i) 0 ⟨rfl, rfl, rfl, trivial⟩ ⟨Nat.zero_le _, fun j p h => by omega, rfl⟩ ?_
    rintro i w ⟨hi, hno, ew⟩
    subst w
    refine Sc.seq ?_
    refine Sc.seq ?_
    refine Sc.region ?_
    refine Sl.calm (Cm.move rfl) rfl ?_
    refine Sl.calm (Cm.move rfl) rfl ?_
    refine Sl.calm (Cm.indexAddr1 sl22 rfl rfl hv3.non (by simp)) rfl ?_
    refine Sl.calm (Cm.ofEq (u := .slice h.a qs.length h.c) (Cm.ld sca25 rfl (hv3.1.get 0 h hh)) (by rw [← hn]; rfl)) rfl ?_
    refine Sl.calm (Cm.len sl25 rfl) rfl ?_
    refine Sl.fork (Cm.lss rfl rfl) rfl (fun h22 => ?_) (fun h22 => ?_)
    ·
      have hil : i < qs.length := by omega
      obtain ⟨p, hp⟩ : ∃ p, qs[i]? = some p := ⟨_, List.getElem?_eq_getElem hil⟩
      refine Sl.nil ?_
      refine At.weak [(3, _), (4, _), (5, _), (22, _)] ⟨rfl, rfl, rfl, rfl, trivial⟩ ?_
      refine At.go ?_
      refine Sc.cond_t rfl ?_
      refine Sc.skip ?_
      refine At.go ?_
      refine Sc.seq ?_
      refine Sc.block ?_
      refine Sc.seq ?_
      refine Sc.region ?_
      refine Sl.calm (Cm.move rfl) rfl ?_
      refine Sl.calm (Cm.indexAddr1 sl22 rfl rfl hv3.non (by simp)) rfl ?_
      refine Sl.calm (Cm.ofEq (u := .slice h.a qs.length h.c) (Cm.ld sca25 rfl (hv3.1.get 0 h hh)) (by rw [← hn]; rfl)) rfl ?_
      refine Sl.calm (Cm.move rfl) rfl ?_
      refine Sl.calm (Cm.indexAddr sl25 rfl rfl hvn.1.non (by omega)) rfl ?_
      refine Sl.calm (Cm.field fld35_2 rfl) rfl ?_
      refine Sl.calm (Cm.ld sca3 rfl (hvn.1.rowZ i rfl hp 2 _ rfl)) rfl ?_
      refine Sl.fork (Cm.eql rfl rfl) rfl (fun h32 => ?_) (fun h32 => ?_)
      ·
        refine Sl.nil ?_
        refine At.weak [(3, _), (4, _), (5, _), (22, _), (32, _)] ⟨rfl, rfl, rfl, rfl, rfl, trivial⟩ ?_
        refine At.go ?_
        refine Sc.cond_t rfl ?_
        refine Sc.seq ?_
        refine Sc.region ?_
        refine Sl.calm (Cm.move rfl) rfl ?_
        refine Sl.calm (Cm.assign rfl) rfl ?_
        refine Sl.nil ?_
        refine At.weak [(2, _), (3, _), (4, _), (5, _), (22, _), (32, _)] ⟨rfl, rfl, rfl, rfl, rfl, rfl, trivial⟩ ?_
        refine At.go ?_
        refine Sc.ret ?_
        refine At.block_ret ?_
        refine At.then_ret ?_
        refine At.then_ret ?_
        refine At.block_ret ?_
        refine At.then_ret ?_
        refine At.ret1 rfl rfl ?_
        first
          | exact ⟨_, rfl, rfl, hF3.trans (hf35.trans (hf6.trans hf7))⟩
          | exact ⟨_, rfl, rfl, hF3⟩
      ·
        refine Sl.nil ?_
        refine At.weak [(3, _), (4, _), (5, _), (22, _), (32, _)] ⟨rfl, rfl, rfl, rfl, rfl, trivial⟩ ?_
        refine At.go ?_
        refine Sc.cond_f rfl ?_
        refine Sc.skip ?_
        refine At.block_normal ?_
        refine At.go ?_
        refine Sc.region ?_
        refine Sl.calm (Cm.move rfl) rfl ?_
        refine Sl.calm (Cm.add64 rfl rfl (by omega)) rfl ?_
        refine Sl.calm (Cm.assign rfl) rfl ?_
        refine Sl.nil ?_
        refine At.again (i + 1) ⟨rfl, rfl, rfl, trivial⟩ ⟨by omega, fun j q hj hq => ?_, rfl⟩ (by show qs.length - (i + 1) < qs.length - i; omega)
        by_cases e : j = i
        · subst e; rw [hp] at hq; cases hq; exact h32
        · exact hno j q (by omega) hq
    ·
      have hie : i = qs.length := by omega
      have hwq : ∀ p ∈ qs, p.2.kind ≠ 4 := fun p hp => by obtain ⟨j, hj⟩ := List.getElem?_of_mem hp; exact hno j p (by have := (List.getElem?_eq_some_iff.1 hj).1; omega) hj
      refine Sl.nil ?_
      refine At.weak [(3, _), (4, _), (5, _), (22, _)] ⟨rfl, rfl, rfl, rfl, trivial⟩ ?_
      refine At.go ?_
      refine Sc.cond_f rfl ?_
      refine Sc.exit ?_
      refine At.then_exit ?_
      refine At.then_exit ?_
      refine At.block_hit ?_
      refine At.go ?_
      refine Sc.seq ?_
      refine Sc.draw 9 (fun H => Vw hd H o c hs2) [6, 7] [0, 1, 2, 3, 4, 5, 6, 7, 8] mixed (by kernel_rfl) (hv3.1) ?_
      refine Sx.calm rfl rfl (Cm.move rfl) rfl ?_
      refine Sx.calm rfl rfl (Cm.indexAddr1 sl22 rfl rfl hv3.non (by simp)) rfl ?_
      refine Sx.calm rfl rfl (Cm.ofEq (u := hd h) (Cm.load sca25 rfl (fun H hH => hH.get 0 h hh)) rfl) rfl ?_
      refine Sx.calm rfl rfl (Cm.move rfl) rfl ?_
      refine Sx.calm rfl rfl (Cm.indexAddr1 sl22 rfl rfl hv3.non (by simp)) rfl ?_
      refine Sx.calm rfl rfl (Cm.ofEq (u := hd h) (Cm.load sca25 rfl (fun H hH => hH.get 0 h hh)) rfl) rfl ?_
      refine Sx.eff rfl rfl (Sl.lit2 (enc := hd) (u := h) (u' := h) sl22 hd_one rfl rfl rfl ?_)
      intro w4 ho4 hs4 hf4
      have hf4 := hf4.undraw
      obtain ⟨g4, eg4⟩ : ∃ g, g = w3.heap.size := ⟨_, rfl⟩
      rw [show (w3.drewN 1).heap.size = g4 from eg4.symm] at ho4 ⊢
      refine Sx.on (by exact (hv3.grow hf4).1) ?_
      refine Sx.eff rfl rfl (Sl.call fn12 rfl (merge_ok (some ⟨g4, 0, none⟩) 2 [h, h] [qs, qs] w4 (lys2D ho4 (hvn.grow hf4) (hvn.grow hf4) hn hn) (gdA2 (hg qs (by simp)) (hg qs (by simp))) (by show (2 : Nat) ≤ 1000; decide) (by have := offU (Ls := [qs, qs]) (fun q hq => by simp at hq; rw [hq]; exact hgq) (by simp); omega)) rfl ?_)
      rintro _ w5 ⟨o5, c5, xs, rfl, ho5, hxn, hxv, hfo5, hf5⟩
      have hf35 := hf4.trans hf5
      refine Sx.on (by exact (hv3.grow hf35).1) ?_
      refine Sx.calm rfl rfl (Cm.assign rfl) rfl ?_
      refine Sx.nil ?_
      refine At.weak [(3, _), (4, _), (5, _), (6, _), (22, _)] ⟨rfl, rfl, rfl, rfl, rfl, trivial⟩ ?_
      refine At.go ?_
      refine Sc.seq ?_
      refine Sc.region ?_
      refine Sl.calm (Cm.move rfl) rfl ?_
      refine Sl.call fn12 rfl (merge_ok o c hs2 [qs] w5 (hv3.grow hf35) hg (by simp) (by omega)) rfl ?_
      rintro _ w6 ⟨o6, c6, zs, rfl, ho6, hzn, hzv, hfo6, hf6⟩
      refine Sl.calm (Cm.assign rfl) rfl ?_
      refine Sl.nil ?_
      refine At.weak [(3, _), (4, _), (5, _), (6, _), (7, _), (22, _)] ⟨rfl, rfl, rfl, rfl, rfl, rfl, trivial⟩ ?_
      refine At.go ?_
      refine Sc.seq ?_
      refine Sc.region ?_
      refine Sl.calm (Cm.move rfl) rfl ?_
      refine Sl.calm (Cm.move rfl) rfl ?_
      refine Sl.call fn14 rfl (rsameN_ok (D := fun _ => True) (D' := fun _ => True) o5 o6 c5 c6 xs zs w6 ((NodesV.all ho5 hxv).grow hf6) (NodesV.all ho6 hzv)) rfl ?_
      rintro v7 w7 ⟨hb, _, hf7⟩
      obtain rfl := hb.2 (by rw [hxn, hzn, same_vis hgq.1.1 (gdA2 (hg qs (by simp)) (hg qs (by simp))) hwq])
      refine Sl.calm (Cm.assign rfl) rfl ?_
      refine Sl.nil ?_
      refine At.weak [(3, _), (4, _), (5, _), (6, _), (7, _), (8, _), (22, _)] ⟨rfl, rfl, rfl, rfl, rfl, rfl, rfl, trivial⟩ ?_
      refine At.go ?_
      refine Sc.seq ?_
      refine Sc.region ?_
      refine Sl.calm (Cm.move rfl) rfl ?_
      refine Sl.calm (Cm.move rfl) rfl ?_
      refine Sl.want rfl rfl (Cm.move rfl) rfl ?_
      refine Sl.calm (Cm.pick_t rfl rfl) rfl ?_
      refine Sl.calm (Cm.assign rfl) rfl ?_
      refine Sl.nil ?_
      refine At.weak [(2, _), (3, _), (4, _), (5, _), (6, _), (7, _), (8, _), (22, _)] ⟨rfl, rfl, rfl, rfl, rfl, rfl, rfl, rfl, trivial⟩ ?_
      refine At.go ?_
      refine Sc.ret ?_
      refine At.ret1 rfl rfl ?_
      first
        | exact ⟨_, rfl, rfl, hF3.trans (hf35.trans (hf6.trans hf7))⟩
        | exact ⟨_, rfl, rfl, hF3⟩
end Go.Proofs.Ytpamandneifemaa
