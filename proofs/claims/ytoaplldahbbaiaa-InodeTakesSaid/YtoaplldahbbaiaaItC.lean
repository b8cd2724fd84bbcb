/- inode: Take, the reference's. No condition beyond the bounds that each states. -/
import Derived.Test.YtoaplldahbbaiaaItB
namespace Go.Proofs.Ytoaplldahbbaiaa
open Go Go.RowKit
set_option linter.unusedVariables false

theorem putI_may {F : Nat → Int} {T : List UInt8} : (putI F T).2 = 0 ↔ mayI F T := by unfold putI; split <;> simp_all
theorem putI_eq {F : Nat → Int} {T : List UInt8} (h : mayI F T) : (putI F T).1 = (rEnd F T).2 := by unfold putI; rw [if_pos h]
theorem gF_keep {q : Rd × (Nat → Int)} {x : Fd} (h : x.o ≠ 0) : (gF q x).2 0 = q.2 0 := by
  show upd _ _ _ 0 = _
  unfold upd
  rw [if_neg (fun e => h e.symm)]

set_option maxHeartbeats 2000000 in
theorem rtake_ok (b : List UInt8) (ao0 : Option Addr) (c0 : Nat) (W : World) (hv : Vw b8 W.heap ao0 c0 b) (hb : b.length ≤ 1099511627776) :
    Calls Try.prog 26 [.slice ao0 b.length c0].toArray W (Ret (TkP W b)) := by
  refine calls_of_sc 63 [(0, _)] Try.func26 rfl rfl rfl (enter_slots ⟨rfl, trivial⟩) ?_
  refine Sc.seq ?_
  refine Sc.region ?_
  refine Sl.allocC zc33 rfl ?_
  intro w1 hg1 hs1 hf1
  have hg1 : w1.heap[W.heap.size]? = some (.cells (inoC (fun _ => 0) []).toArray 33 (0, 0)) := hg1
  have hv1 := hv.grow hf1
  refine Sl.calm (Cm.assign rfl) rfl ?_
  refine Sl.nil ?_
  refine At.go ?_
  refine Sc.seq ?_
  refine Sc.region ?_
  refine Sl.lit0 b8 sl25 rfl ?_
  intro wa hoa hsa hfa
  refine Sl.calm (Cm.move rfl) rfl ?_
  refine Sl.append b8_one sl25 rfl rfl hoa (hv1.grow hfa) (by simp; omega) (by simp; unfold maxLen; omega) rfl ?_
  intro ao1 c1 wb ho1 hfb hrb hnb
  rw [List.nil_append] at ho1
  have hf1b : Foot nob w1 wb := hfa.trans_to hfb (fr_at _).step
  have hz1b := hf1b.size
  have hfr1 : Fr w1.heap.size ao1 := fr_next (fr_at _) hrb hfa.size
  refine Sl.calm (Cm.build (cs := #[.slice ao1 b.length c1, .int .i64 0]) plc106 zc106 rfl (by kernel_rfl)) rfl ?_
  refine Sl.allocC zc106 rfl ?_
  intro wc hgc hsc hfc
  refine Sl.storeAll (vs := [.slice ao1 b.length c1, .int .i64 0]) agg106 rfl rfl (by simp [Value.oneCell']) hgc rfl ?_
  intro w2 hg2 hs2 hf2
  have hf12 : Foot nob w1 w2 := (hf1b.trans hfc).trans_to hf2 (fun k hk => .inr (by have : k = wb.heap.size := hk; omega))
  have hz12 := hf12.size
  have hzc := hfc.size
  obtain ⟨p, hp⟩ : ∃ p, p = wb.heap.size := ⟨_, rfl⟩
  rw [← hp] at hg2 ⊢
  have ho2 : Own b8 5 w2.heap ao1 c1 b := (ho1.grow hfc).keep hf2 (fun a ha h => by have := ho1.lt a ha; have h : a.block = wb.heap.size := h; omega)
  have hP2 : RdR (fun k => W.heap.size < k ∧ k < w2.heap.size) w2.heap p 0 b := ⟨ao1, c1, hg2, ho2.vw, fun ⟨a, ha, hb⟩ => by have h3 := ho1.lt a ha; omega, ⟨by omega, by omega⟩, fun k ⟨a, ha, hb⟩ => by have h3 := ho1.lt a ha; have h4 := hfr1 a ha; omega⟩
  refine Sl.nil ?_
  refine At.weak [(0, _), (2, _), (3, _), (4, _)] ⟨rfl, rfl, rfl, rfl, trivial⟩ ?_
  refine At.go ?_
  refine Sc.seq ?_
  refine Sc.region ?_
  refine Sl.calm (Cm.build (cs := (inoC (fun _ => 0) []).toArray) plc33 zc33 rfl (by kernel_rfl)) rfl ?_
  obtain ⟨w3, hw3⟩ : ∃ w, w = w2 := ⟨_, rfl⟩
  rw [← hw3] at hP2 ⊢
  refine Sl.allocC zc33 rfl ?_
  intro w4 hg4 hs4 hf4
  refine Sl.storeAll (vs := inoC (fun _ => 0) []) agg33 rfl rfl (by intro v hv; exact inoC_one _ _ v hv) hg4 rfl ?_
  intro v0 hq0 hsv hfv
  subst hw3
  have hfv0 : Foot nob w3 v0 := hf4.trans_to hfv (fun k hk => .inr (by have : k = w3.heap.size := hk; omega))
  obtain ⟨s0, hs0⟩ : ∃ s : Rd × (Nat → Int), s = ((0, b), fun _ => 0) := ⟨_, rfl⟩
  have hq0 : v0.heap[w3.heap.size]? = some (.cells (inoC s0.2 []).toArray 33 (0, 0)) := by rw [hs0]; exact hq0
  have hP0 : RdR (fun k => W.heap.size < k ∧ k < w3.heap.size) v0.heap p s0.1.1 s0.1.2 := by rw [hs0]; exact hP2.grow hfv0
  have hr0 := hfv0.obj (hf12.obj hg1 id) id
  have hl0 : s0.1.2.length ≤ b.length := by rw [hs0]; exact Nat.le_refl _
  have hF0 : Foot nob W v0 := (hf1.trans hf12).trans hfv0
  refine Sl.nil ?_
  refine At.weak [(0, _), (2, _), (3, _), (4, _), (5, _)] ⟨rfl, rfl, rfl, rfl, rfl, trivial⟩ ?_
  refine At.go ?_
  refine Sc.seq ?_
  refine Sc.region ?_
  refine Sl.call fn58 rfl (rrdnum_ok p _ _ 1 v0 hP0 (by omega)) rfl ?_
  rintro _ u1 ⟨rfl, hPu, hfu⟩
  have hqu := hfu.obj hq0 (by omega)
  refine Sl.calm (Cm.field fld33_0 rfl) rfl ?_
  refine Sl.store sca3 rfl rfl rfl hqu rfl ?_
  intro v1 hqv hsv hfv
  obtain ⟨s1, hs1⟩ : ∃ s, s = gF s0 ⟨77, 0, 1, 511⟩ := ⟨_, rfl⟩
  have hq1 : v1.heap[w3.heap.size]? = some (.cells (inoC s1.2 []).toArray 33 (0, 0)) := by rw [hs1]; exact hqv
  have hP1 : RdR (fun k => W.heap.size < k ∧ k < w3.heap.size) v1.heap p s1.1.1 s1.1.2 := by rw [hs1]; exact hPu.keep hfv (fun k hk h => by have h : k = w3.heap.size := h; omega)
  have hr1 := hfv.obj (hfu.obj hr0 (by omega)) (fun h => by have h : W.heap.size = w3.heap.size := h; omega)
  have hl1 : s1.1.2.length ≤ s0.1.2.length := by rw [hs1]; exact gF_len _ _
  have hF1 : Foot nob W v1 := (hF0.trans_to hfu (fun k hk => .inr (by have : k = p := hk; omega))).trans_to hfv (fun k hk => .inr (by have : k = w3.heap.size := hk; omega))
  have hk1 : s1.2 0 = gK b := by rw [hs1, hs0]; show upd (fun _ => 0) 0 (gK b) 0 = _; simp [upd]
  have hg0 : s1 = g0 b := by rw [hs1, hs0]; rfl
  refine Sl.nil ?_
  refine At.weak [(0, _), (2, _), (3, _), (4, _), (5, _)] ⟨rfl, rfl, rfl, rfl, rfl, trivial⟩ ?_
  refine At.go ?_
  refine Sc.seq ?_
  refine Sc.region ?_
  refine Sl.call fn58 rfl (rrdnum_ok p _ _ 2 v1 hP1 (by omega)) rfl ?_
  rintro _ u2 ⟨rfl, hPu, hfu⟩
  have hqu := hfu.obj hq1 (by omega)
  refine Sl.calm (Cm.field fld33_1 rfl) rfl ?_
  refine Sl.store sca3 rfl rfl rfl hqu rfl ?_
  intro v2 hqv hsv hfv
  obtain ⟨s2, hs2⟩ : ∃ s, s = gF s1 ⟨77, 1, 2, 511⟩ := ⟨_, rfl⟩
  have hq2 : v2.heap[w3.heap.size]? = some (.cells (inoC s2.2 []).toArray 33 (0, 0)) := by rw [hs2]; exact hqv
  have hP2 : RdR (fun k => W.heap.size < k ∧ k < w3.heap.size) v2.heap p s2.1.1 s2.1.2 := by rw [hs2]; exact hPu.keep hfv (fun k hk h => by have h : k = w3.heap.size := h; omega)
  have hr2 := hfv.obj (hfu.obj hr1 (by omega)) (fun h => by have h : W.heap.size = w3.heap.size := h; omega)
  have hl2 : s2.1.2.length ≤ s1.1.2.length := by rw [hs2]; exact gF_len _ _
  have hF2 : Foot nob W v2 := (hF1.trans_to hfu (fun k hk => .inr (by have : k = p := hk; omega))).trans_to hfv (fun k hk => .inr (by have : k = w3.heap.size := hk; omega))
  have hk2 : s2.2 0 = gK b := by rw [hs2, gF_keep (by decide)]; exact hk1
  refine Sl.nil ?_
  refine At.weak [(0, _), (2, _), (3, _), (4, _), (5, _)] ⟨rfl, rfl, rfl, rfl, rfl, trivial⟩ ?_
  refine At.go ?_
  refine Sc.seq ?_
  refine Sc.region ?_
  refine Sl.call fn58 rfl (rrdnum_ok p _ _ 2 v2 hP2 (by omega)) rfl ?_
  rintro _ u3 ⟨rfl, hPu, hfu⟩
  have hqu := hfu.obj hq2 (by omega)
  refine Sl.calm (Cm.field fld33_2 rfl) rfl ?_
  refine Sl.store sca3 rfl rfl rfl hqu rfl ?_
  intro v3 hqv hsv hfv
  obtain ⟨s3, hs3⟩ : ∃ s, s = gF s2 ⟨78, 2, 2, 2047⟩ := ⟨_, rfl⟩
  have hq3 : v3.heap[w3.heap.size]? = some (.cells (inoC s3.2 []).toArray 33 (0, 0)) := by rw [hs3]; exact hqv
  have hP3 : RdR (fun k => W.heap.size < k ∧ k < w3.heap.size) v3.heap p s3.1.1 s3.1.2 := by rw [hs3]; exact hPu.keep hfv (fun k hk h => by have h : k = w3.heap.size := h; omega)
  have hr3 := hfv.obj (hfu.obj hr2 (by omega)) (fun h => by have h : W.heap.size = w3.heap.size := h; omega)
  have hl3 : s3.1.2.length ≤ s2.1.2.length := by rw [hs3]; exact gF_len _ _
  have hF3 : Foot nob W v3 := (hF2.trans_to hfu (fun k hk => .inr (by have : k = p := hk; omega))).trans_to hfv (fun k hk => .inr (by have : k = w3.heap.size := hk; omega))
  have hk3 : s3.2 0 = gK b := by rw [hs3, gF_keep (by decide)]; exact hk2
  refine Sl.nil ?_
  refine At.weak [(0, _), (2, _), (3, _), (4, _), (5, _)] ⟨rfl, rfl, rfl, rfl, rfl, trivial⟩ ?_
  refine At.go ?_
  refine Sc.seq ?_
  refine Sc.region ?_
  refine Sl.call fn58 rfl (rrdnum_ok p _ _ 2 v3 hP3 (by omega)) rfl ?_
  rintro _ u4 ⟨rfl, hPu, hfu⟩
  have hqu := hfu.obj hq3 (by omega)
  refine Sl.calm (Cm.field fld33_3 rfl) rfl ?_
  refine Sl.store sca3 rfl rfl rfl hqu rfl ?_
  intro v4 hqv hsv hfv
  obtain ⟨s4, hs4⟩ : ∃ s, s = gF s3 ⟨79, 3, 2, 2047⟩ := ⟨_, rfl⟩
  have hq4 : v4.heap[w3.heap.size]? = some (.cells (inoC s4.2 []).toArray 33 (0, 0)) := by rw [hs4]; exact hqv
  have hP4 : RdR (fun k => W.heap.size < k ∧ k < w3.heap.size) v4.heap p s4.1.1 s4.1.2 := by rw [hs4]; exact hPu.keep hfv (fun k hk h => by have h : k = w3.heap.size := h; omega)
  have hr4 := hfv.obj (hfu.obj hr3 (by omega)) (fun h => by have h : W.heap.size = w3.heap.size := h; omega)
  have hl4 : s4.1.2.length ≤ s3.1.2.length := by rw [hs4]; exact gF_len _ _
  have hF4 : Foot nob W v4 := (hF3.trans_to hfu (fun k hk => .inr (by have : k = p := hk; omega))).trans_to hfv (fun k hk => .inr (by have : k = w3.heap.size := hk; omega))
  have hk4 : s4.2 0 = gK b := by rw [hs4, gF_keep (by decide)]; exact hk3
  refine Sl.nil ?_
  refine At.weak [(0, _), (2, _), (3, _), (4, _), (5, _)] ⟨rfl, rfl, rfl, rfl, rfl, trivial⟩ ?_
  refine At.go ?_
  refine Sc.seq ?_
  refine Sc.region ?_
  refine Sl.call fn58 rfl (rrdnum_ok p _ _ 2 v4 hP4 (by omega)) rfl ?_
  rintro _ u5 ⟨rfl, hPu, hfu⟩
  have hqu := hfu.obj hq4 (by omega)
  refine Sl.calm (Cm.field fld33_4 rfl) rfl ?_
  refine Sl.store sca3 rfl rfl rfl hqu rfl ?_
  intro v5 hqv hsv hfv
  obtain ⟨s5, hs5⟩ : ∃ s, s = gF s4 ⟨80, 4, 2, 1024⟩ := ⟨_, rfl⟩
  have hq5 : v5.heap[w3.heap.size]? = some (.cells (inoC s5.2 []).toArray 33 (0, 0)) := by rw [hs5]; exact hqv
  have hP5 : RdR (fun k => W.heap.size < k ∧ k < w3.heap.size) v5.heap p s5.1.1 s5.1.2 := by rw [hs5]; exact hPu.keep hfv (fun k hk h => by have h : k = w3.heap.size := h; omega)
  have hr5 := hfv.obj (hfu.obj hr4 (by omega)) (fun h => by have h : W.heap.size = w3.heap.size := h; omega)
  have hl5 : s5.1.2.length ≤ s4.1.2.length := by rw [hs5]; exact gF_len _ _
  have hF5 : Foot nob W v5 := (hF4.trans_to hfu (fun k hk => .inr (by have : k = p := hk; omega))).trans_to hfv (fun k hk => .inr (by have : k = w3.heap.size := hk; omega))
  have hk5 : s5.2 0 = gK b := by rw [hs5, gF_keep (by decide)]; exact hk4
  refine Sl.nil ?_
  refine At.weak [(0, _), (2, _), (3, _), (4, _), (5, _)] ⟨rfl, rfl, rfl, rfl, rfl, trivial⟩ ?_
  refine At.go ?_
  refine Sc.seq ?_
  refine Sc.region ?_
  refine Sl.call fn58 rfl (rrdnum_ok p _ _ 4 v5 hP5 (by omega)) rfl ?_
  rintro _ u6 ⟨rfl, hPu, hfu⟩
  have hqu := hfu.obj hq5 (by omega)
  refine Sl.calm (Cm.field fld33_5 rfl) rfl ?_
  refine Sl.store sca3 rfl rfl rfl hqu rfl ?_
  intro v6 hqv hsv hfv
  obtain ⟨s6, hs6⟩ : ∃ s, s = gF s5 ⟨81, 5, 4, 4294967295⟩ := ⟨_, rfl⟩
  have hq6 : v6.heap[w3.heap.size]? = some (.cells (inoC s6.2 []).toArray 33 (0, 0)) := by rw [hs6]; exact hqv
  have hP6 : RdR (fun k => W.heap.size < k ∧ k < w3.heap.size) v6.heap p s6.1.1 s6.1.2 := by rw [hs6]; exact hPu.keep hfv (fun k hk h => by have h : k = w3.heap.size := h; omega)
  have hr6 := hfv.obj (hfu.obj hr5 (by omega)) (fun h => by have h : W.heap.size = w3.heap.size := h; omega)
  have hl6 : s6.1.2.length ≤ s5.1.2.length := by rw [hs6]; exact gF_len _ _
  have hF6 : Foot nob W v6 := (hF5.trans_to hfu (fun k hk => .inr (by have : k = p := hk; omega))).trans_to hfv (fun k hk => .inr (by have : k = w3.heap.size := hk; omega))
  have hk6 : s6.2 0 = gK b := by rw [hs6, gF_keep (by decide)]; exact hk5
  have hcom : s6 = comL.foldl gF (g0 b) := by rw [hs6, hs5, hs4, hs3, hs2, hg0]; rfl
  refine Sl.nil ?_
  refine At.weak [(0, _), (2, _), (3, _), (4, _), (5, _)] ⟨rfl, rfl, rfl, rfl, rfl, trivial⟩ ?_
  refine At.go ?_
  refine Sc.cut (β := Unit) (fun _u => [(0, .slice ao0 b.length c0), (2, .pointer (some ⟨W.heap.size, 0, none⟩)), (5, .pointer (some ⟨w3.heap.size, 0, none⟩))]) (fun _u w => w.heap[w3.heap.size]? = some (.cells (inoC (gFn b) (gT b)).toArray 33 (0, 0)) ∧ w.heap[W.heap.size]? = some (.cells (inoC (fun _ => 0) []).toArray 33 (0, 0)) ∧ Foot nob W w) ?_ ?_
  ·
    refine Sc.seq ?_
    refine Sc.region ?_
    refine Sl.calm (Cm.field fld33_0 rfl) rfl ?_
    refine Sl.calm (Cm.ld sca3 rfl (cellF hq6 rfl)) rfl ?_
    refine Sl.nil ?_
    refine At.weak [(0, _), (2, _), (3, _), (4, _), (5, _), (26, _)] ⟨rfl, rfl, rfl, rfl, rfl, rfl, trivial⟩ ?_
    refine At.go ?_
    refine Sc.block ?_
    refine Sc.seq ?_
    refine Sc.region ?_
    refine Sl.fork (Cm.eql rfl rfl) rfl (fun h28 => ?_) (fun h28 => ?_)
    ·
      have hk : gK b = 2 := by omega
      refine Sl.calm (Cm.assign rfl) rfl ?_
      refine Sl.nil ?_
      refine At.weak [(0, _), (2, _), (3, _), (4, _), (5, _), (26, _), (27, _)] ⟨rfl, rfl, rfl, rfl, rfl, rfl, rfl, trivial⟩ ?_
      refine At.go ?_
      refine Sc.cond_t rfl ?_
      refine Sc.seq ?_
      refine Sc.region ?_
      refine Sl.call fn58 rfl (rrdnum_ok p _ _ 4 v6 hP6 (by omega)) rfl ?_
      rintro _ u7 ⟨rfl, hPu, hfu⟩
      have hqu := hfu.obj hq6 (by omega)
      refine Sl.calm (Cm.field fld33_6 rfl) rfl ?_
      refine Sl.store sca3 rfl rfl rfl hqu rfl ?_
      intro v7 hqv hsv hfv
      obtain ⟨s7, hs7⟩ : ∃ s, s = gF s6 ⟨82, 6, 4, 4294967295⟩ := ⟨_, rfl⟩
      have hq7 : v7.heap[w3.heap.size]? = some (.cells (inoC s7.2 []).toArray 33 (0, 0)) := by rw [hs7]; exact hqv
      have hP7 : RdR (fun k => W.heap.size < k ∧ k < w3.heap.size) v7.heap p s7.1.1 s7.1.2 := by rw [hs7]; exact hPu.keep hfv (fun k hk h => by have h : k = w3.heap.size := h; omega)
      have hr7 := hfv.obj (hfu.obj hr6 (by omega)) (fun h => by have h : W.heap.size = w3.heap.size := h; omega)
      have hl7 : s7.1.2.length ≤ s6.1.2.length := by rw [hs7]; exact gF_len _ _
      have hF7 : Foot nob W v7 := (hF6.trans_to hfu (fun k hk => .inr (by have : k = p := hk; omega))).trans_to hfv (fun k hk => .inr (by have : k = w3.heap.size := hk; omega))
      have hk7 : s7.2 0 = gK b := by rw [hs7, gF_keep (by decide)]; exact hk6
      refine Sl.nil ?_
      refine At.weak [(0, _), (2, _), (3, _), (4, _), (5, _), (26, _), (27, _)] ⟨rfl, rfl, rfl, rfl, rfl, rfl, rfl, trivial⟩ ?_
      refine At.go ?_
      refine Sc.seq ?_
      refine Sc.region ?_
      refine Sl.call fn58 rfl (rrdnum_ok p _ _ 2 v7 hP7 (by omega)) rfl ?_
      rintro _ u8 ⟨rfl, hPu, hfu⟩
      have hqu := hfu.obj hq7 (by omega)
      refine Sl.calm (Cm.field fld33_7 rfl) rfl ?_
      refine Sl.store sca3 rfl rfl rfl hqu rfl ?_
      intro v8 hqv hsv hfv
      obtain ⟨s8, hs8⟩ : ∃ s, s = gF s7 ⟨83, 7, 2, 4096⟩ := ⟨_, rfl⟩
      have hq8 : v8.heap[w3.heap.size]? = some (.cells (inoC s8.2 []).toArray 33 (0, 0)) := by rw [hs8]; exact hqv
      have hP8 : RdR (fun k => W.heap.size < k ∧ k < w3.heap.size) v8.heap p s8.1.1 s8.1.2 := by rw [hs8]; exact hPu.keep hfv (fun k hk h => by have h : k = w3.heap.size := h; omega)
      have hr8 := hfv.obj (hfu.obj hr7 (by omega)) (fun h => by have h : W.heap.size = w3.heap.size := h; omega)
      have hl8 : s8.1.2.length ≤ s7.1.2.length := by rw [hs8]; exact gF_len _ _
      have hF8 : Foot nob W v8 := (hF7.trans_to hfu (fun k hk => .inr (by have : k = p := hk; omega))).trans_to hfv (fun k hk => .inr (by have : k = w3.heap.size := hk; omega))
      have hk8 : s8.2 0 = gK b := by rw [hs8, gF_keep (by decide)]; exact hk7
      refine Sl.nil ?_
      refine At.weak [(0, _), (2, _), (3, _), (4, _), (5, _), (26, _), (27, _)] ⟨rfl, rfl, rfl, rfl, rfl, rfl, rfl, trivial⟩ ?_
      refine At.go ?_
      refine Sc.seq ?_
      refine Sc.region ?_
      refine Sl.call fn58 rfl (rrdnum_ok p _ _ 2 v8 hP8 (by omega)) rfl ?_
      rintro _ u9 ⟨rfl, hPu, hfu⟩
      have hqu := hfu.obj hq8 (by omega)
      refine Sl.calm (Cm.field fld33_8 rfl) rfl ?_
      refine Sl.store sca3 rfl rfl rfl hqu rfl ?_
      intro v9 hqv hsv hfv
      obtain ⟨s9, hs9⟩ : ∃ s, s = gF s8 ⟨84, 8, 2, 1024⟩ := ⟨_, rfl⟩
      have hq9 : v9.heap[w3.heap.size]? = some (.cells (inoC s9.2 []).toArray 33 (0, 0)) := by rw [hs9]; exact hqv
      have hP9 : RdR (fun k => W.heap.size < k ∧ k < w3.heap.size) v9.heap p s9.1.1 s9.1.2 := by rw [hs9]; exact hPu.keep hfv (fun k hk h => by have h : k = w3.heap.size := h; omega)
      have hr9 := hfv.obj (hfu.obj hr8 (by omega)) (fun h => by have h : W.heap.size = w3.heap.size := h; omega)
      have hl9 : s9.1.2.length ≤ s8.1.2.length := by rw [hs9]; exact gF_len _ _
      have hF9 : Foot nob W v9 := (hF8.trans_to hfu (fun k hk => .inr (by have : k = p := hk; omega))).trans_to hfv (fun k hk => .inr (by have : k = w3.heap.size := hk; omega))
      have hk9 : s9.2 0 = gK b := by rw [hs9, gF_keep (by decide)]; exact hk8
      refine Sl.nil ?_
      refine At.weak [(0, _), (2, _), (3, _), (4, _), (5, _), (26, _), (27, _)] ⟨rfl, rfl, rfl, rfl, rfl, rfl, rfl, trivial⟩ ?_
      refine At.go ?_
      refine Sc.region ?_
      refine Sl.call fn58 rfl (rrdnum_ok p _ _ 1 v9 hP9 (by omega)) rfl ?_
      rintro _ u10 ⟨rfl, hPu, hfu⟩
      have hqu := hfu.obj hq9 (by omega)
      refine Sl.calm (Cm.field fld33_9 rfl) rfl ?_
      refine Sl.store sca3 rfl rfl rfl hqu rfl ?_
      intro v10 hqv hsv hfv
      obtain ⟨s10, hs10⟩ : ∃ s, s = gF s9 ⟨85, 9, 1, 127⟩ := ⟨_, rfl⟩
      have hq10 : v10.heap[w3.heap.size]? = some (.cells (inoC s10.2 []).toArray 33 (0, 0)) := by rw [hs10]; exact hqv
      have hP10 : RdR (fun k => W.heap.size < k ∧ k < w3.heap.size) v10.heap p s10.1.1 s10.1.2 := by rw [hs10]; exact hPu.keep hfv (fun k hk h => by have h : k = w3.heap.size := h; omega)
      have hr10 := hfv.obj (hfu.obj hr9 (by omega)) (fun h => by have h : W.heap.size = w3.heap.size := h; omega)
      have hl10 : s10.1.2.length ≤ s9.1.2.length := by rw [hs10]; exact gF_len _ _
      have hF10 : Foot nob W v10 := (hF9.trans_to hfu (fun k hk => .inr (by have : k = p := hk; omega))).trans_to hfv (fun k hk => .inr (by have : k = w3.heap.size := hk; omega))
      have hk10 : s10.2 0 = gK b := by rw [hs10, gF_keep (by decide)]; exact hk9
      refine Sl.nil ?_
      refine At.block_normal ?_
      refine At.cut () ⟨rfl, rfl, rfl, trivial⟩ ?_
      have eR : gR b = s10 := by unfold gR recL fldL; rw [if_pos hk, List.foldl_append, ← hcom, hs10, hs9, hs8, hs7]; rfl
      have eF : gFn b = s10.2 := by unfold gFn; rw [eR]
      have eT : gT b = [] := by unfold gT; rw [if_neg (by omega)]
      exact ⟨by rw [eF, eT]; exact hq10, hr10, hF10⟩
    ·
      have hn2 : ¬ gK b = 2 := by omega
      refine Sl.calm (Cm.assign rfl) rfl ?_
      refine Sl.nil ?_
      refine At.weak [(0, _), (2, _), (3, _), (4, _), (5, _), (26, _), (27, _)] ⟨rfl, rfl, rfl, rfl, rfl, rfl, rfl, trivial⟩ ?_
      refine At.go ?_
      refine Sc.cond_f rfl ?_
      refine Sc.seq ?_
      refine Sc.region ?_
      refine Sl.fork (Cm.eql rfl rfl) rfl (fun h38 => ?_) (fun h38 => ?_)
      ·
        have hk : gK b = 1 := by omega
        refine Sl.calm (Cm.assign rfl) rfl ?_
        refine Sl.nil ?_
        refine At.weak [(0, _), (2, _), (3, _), (4, _), (5, _), (26, _), (27, _), (37, _)] ⟨rfl, rfl, rfl, rfl, rfl, rfl, rfl, rfl, trivial⟩ ?_
        refine At.go ?_
        refine Sc.cond_t rfl ?_
        refine Sc.seq ?_
        refine Sc.region ?_
        refine Sl.call fn58 rfl (rrdnum_ok p _ _ 4 v6 hP6 (by omega)) rfl ?_
        rintro _ u7 ⟨rfl, hPu, hfu⟩
        have hqu := hfu.obj hq6 (by omega)
        refine Sl.calm (Cm.field fld33_6 rfl) rfl ?_
        refine Sl.store sca3 rfl rfl rfl hqu rfl ?_
        intro v7 hqv hsv hfv
        obtain ⟨s7, hs7⟩ : ∃ s, s = gF s6 ⟨82, 6, 4, 4294967295⟩ := ⟨_, rfl⟩
        have hq7 : v7.heap[w3.heap.size]? = some (.cells (inoC s7.2 []).toArray 33 (0, 0)) := by rw [hs7]; exact hqv
        have hP7 : RdR (fun k => W.heap.size < k ∧ k < w3.heap.size) v7.heap p s7.1.1 s7.1.2 := by rw [hs7]; exact hPu.keep hfv (fun k hk h => by have h : k = w3.heap.size := h; omega)
        have hr7 := hfv.obj (hfu.obj hr6 (by omega)) (fun h => by have h : W.heap.size = w3.heap.size := h; omega)
        have hl7 : s7.1.2.length ≤ s6.1.2.length := by rw [hs7]; exact gF_len _ _
        have hF7 : Foot nob W v7 := (hF6.trans_to hfu (fun k hk => .inr (by have : k = p := hk; omega))).trans_to hfv (fun k hk => .inr (by have : k = w3.heap.size := hk; omega))
        have hk7 : s7.2 0 = gK b := by rw [hs7, gF_keep (by decide)]; exact hk6
        refine Sl.nil ?_
        refine At.weak [(0, _), (2, _), (3, _), (4, _), (5, _), (26, _), (27, _), (37, _)] ⟨rfl, rfl, rfl, rfl, rfl, rfl, rfl, rfl, trivial⟩ ?_
        refine At.go ?_
        refine Sc.region ?_
        refine Sl.call fn58 rfl (rrdnum_ok p _ _ 4 v7 hP7 (by omega)) rfl ?_
        rintro _ u8 ⟨rfl, hPu, hfu⟩
        have hqu := hfu.obj hq7 (by omega)
        refine Sl.calm (Cm.field fld33_7 rfl) rfl ?_
        refine Sl.store sca3 rfl rfl rfl hqu rfl ?_
        intro v8 hqv hsv hfv
        obtain ⟨s8, hs8⟩ : ∃ s, s = gF s7 ⟨83, 7, 4, 1048576⟩ := ⟨_, rfl⟩
        have hq8 : v8.heap[w3.heap.size]? = some (.cells (inoC s8.2 []).toArray 33 (0, 0)) := by rw [hs8]; exact hqv
        have hP8 : RdR (fun k => W.heap.size < k ∧ k < w3.heap.size) v8.heap p s8.1.1 s8.1.2 := by rw [hs8]; exact hPu.keep hfv (fun k hk h => by have h : k = w3.heap.size := h; omega)
        have hr8 := hfv.obj (hfu.obj hr7 (by omega)) (fun h => by have h : W.heap.size = w3.heap.size := h; omega)
        have hl8 : s8.1.2.length ≤ s7.1.2.length := by rw [hs8]; exact gF_len _ _
        have hF8 : Foot nob W v8 := (hF7.trans_to hfu (fun k hk => .inr (by have : k = p := hk; omega))).trans_to hfv (fun k hk => .inr (by have : k = w3.heap.size := hk; omega))
        have hk8 : s8.2 0 = gK b := by rw [hs8, gF_keep (by decide)]; exact hk7
        refine Sl.nil ?_
        refine At.block_normal ?_
        refine At.cut () ⟨rfl, rfl, rfl, trivial⟩ ?_
        have eR : gR b = s8 := by unfold gR recL fldL; rw [if_neg hn2, if_pos hk, List.foldl_append, ← hcom, hs8, hs7]; rfl
        have eF : gFn b = s8.2 := by unfold gFn; rw [eR]
        have eT : gT b = [] := by unfold gT; rw [if_neg (by omega)]
        exact ⟨by rw [eF, eT]; exact hq8, hr8, hF8⟩
      ·
        have hn1 : ¬ gK b = 1 := by omega
        refine Sl.calm (Cm.assign rfl) rfl ?_
        refine Sl.nil ?_
        refine At.weak [(0, _), (2, _), (3, _), (4, _), (5, _), (26, _), (27, _), (37, _)] ⟨rfl, rfl, rfl, rfl, rfl, rfl, rfl, rfl, trivial⟩ ?_
        refine At.go ?_
        refine Sc.cond_f rfl ?_
        refine Sc.seq ?_
        refine Sc.region ?_
        refine Sl.fork (Cm.eql rfl rfl) rfl (fun h44 => ?_) (fun h44 => ?_)
        ·
          have hk : gK b = 3 := by omega
          refine Sl.calm (Cm.assign rfl) rfl ?_
          refine Sl.nil ?_
          refine At.weak [(0, _), (2, _), (3, _), (4, _), (5, _), (26, _), (27, _), (37, _), (43, _)] ⟨rfl, rfl, rfl, rfl, rfl, rfl, rfl, rfl, rfl, trivial⟩ ?_
          refine At.go ?_
          refine Sc.cond_t rfl ?_
          refine Sc.region ?_
          refine Sl.call fn59 rfl (rrdtext_ok p _ _ v6 hP6 (by omega)) rfl ?_
          rintro _ u7 ⟨rfl, hPu, hfu⟩
          have hqu := hfu.obj hq6 (by omega)
          refine Sl.calm (Cm.field fld33_10 rfl) rfl ?_
          refine Sl.store sca9 rfl rfl rfl hqu rfl ?_
          intro v7 hqv hsv hfv
          have hq7 : v7.heap[w3.heap.size]? = some (.cells (inoC s6.2 (gTx s6.1)).toArray 33 (0, 0)) := hqv
          have hr7 := hfv.obj (hfu.obj hr6 (by omega)) (fun h => by have h : W.heap.size = w3.heap.size := h; omega)
          have hF7 : Foot nob W v7 := (hF6.trans_to hfu (fun k hk => .inr (by have : k = p := hk; omega))).trans_to hfv (fun k hk => .inr (by have : k = w3.heap.size := hk; omega))
          refine Sl.nil ?_
          refine At.block_normal ?_
          refine At.cut () ⟨rfl, rfl, rfl, trivial⟩ ?_
          have eR : gR b = s6 := by unfold gR recL fldL; rw [if_neg hn2, if_neg hn1, List.append_nil]; exact hcom.symm
          have eF : gFn b = s6.2 := by unfold gFn; rw [eR]
          have eT : gT b = gTx s6.1 := by unfold gT; rw [if_pos hk, eR]
          exact ⟨by rw [eF, eT]; exact hq7, hr7, hF7⟩
        ·
          have hn3 : ¬ gK b = 3 := by omega
          refine Sl.calm (Cm.assign rfl) rfl ?_
          refine Sl.nil ?_
          refine At.weak [(0, _), (2, _), (3, _), (4, _), (5, _), (26, _), (27, _), (37, _), (43, _)] ⟨rfl, rfl, rfl, rfl, rfl, rfl, rfl, rfl, rfl, trivial⟩ ?_
          refine At.go ?_
          refine Sc.cond_f rfl ?_
          refine Sc.skip ?_
          refine At.block_normal ?_
          refine At.cut () ⟨rfl, rfl, rfl, trivial⟩ ?_
          have eR : gR b = s6 := by unfold gR recL fldL; rw [if_neg hn2, if_neg hn1, List.append_nil]; exact hcom.symm
          have eF : gFn b = s6.2 := by unfold gFn; rw [eR]
          have eT : gT b = [] := by unfold gT; rw [if_neg hn3]
          exact ⟨by rw [eF, eT]; exact hq6, hr6, hF6⟩
  ·
    rintro _ w17 ⟨hq17, hr17, hF17⟩
    have hTl : (gT b).length ≤ maxLen := by have := gT_len b; unfold maxLen; omega
    refine Sc.seq ?_
    refine Sc.region ?_
    refine Sl.calm (Cm.ldM (cs := inoC (gFn b) (gT b)) agg33 rfl (fun j v hj => cellF hq17 hj)) rfl ?_
    refine Sl.call fn22 rfl (rput_ok (gFn b) (gT b) w17 hTl) rfl ?_
    rintro _ w18 ⟨a3, c3, rfl, ho3, hfr3, hf3⟩
    have hq18 := hf3.obj hq17 id
    have hr18 := hf3.obj hr17 id
    have hF18 := hF17.trans hf3
    refine Sl.calm (Cm.move rfl) rfl ?_
    refine Sl.calm (Cm.extract rfl rfl) rfl ?_
    refine Sl.calm (Cm.extract rfl rfl) rfl ?_
    refine Sl.calm (Cm.assign rfl) rfl ?_
    refine Sl.calm (Cm.assign rfl) rfl ?_
    refine Sl.nil ?_
    refine At.weak [(0, _), (2, _), (5, _), (6, _), (7, _)] ⟨rfl, rfl, rfl, rfl, rfl, trivial⟩ ?_
    refine At.go ?_
    refine Sc.seq ?_
    refine Sc.seq ?_
    refine Sc.region ?_
    refine Sl.calm (Cm.move rfl) rfl ?_
    refine Sl.fork (Cm.neq rfl rfl) rfl (fun h53 => ?_) (fun h53 => ?_)
    ·
      have hno : ¬ TkOk b := fun h => h53 (putI_may.2 h.2)
      refine Sl.calm (Cm.move rfl) rfl ?_
      refine Sl.skip rfl rfl rfl rfl ?_
      refine Sl.skip rfl rfl rfl rfl ?_
      refine Sl.skip rfl rfl rfl rfl ?_
      refine Sl.skip rfl rfl rfl rfl ?_
      refine Sl.skip rfl rfl rfl rfl ?_
      refine Sl.calm (Cm.pick_t rfl rfl) rfl ?_
      refine Sl.nil ?_
      refine At.weak [(0, _), (2, _), (5, _), (6, _), (7, _), (60, _)] ⟨rfl, rfl, rfl, rfl, rfl, rfl, trivial⟩ ?_
      refine At.go ?_
      refine Sc.cond_t rfl ?_
      refine Sc.seq ?_
      refine Sc.region ?_
      refine Sl.calm (Cm.build (cs := (inoC (fun _ => 0) []).toArray) plc33 zc33 rfl (by kernel_rfl)) rfl ?_
      refine Sl.storeAll (vs := inoC (fun _ => 0) []) agg33 rfl rfl (by intro v hv; exact inoC_one _ _ v hv) hr18 rfl ?_
      intro w20 hg20 hs20 hf20
      refine Sl.calm (Cm.assign rfl) rfl ?_
      refine Sl.nil ?_
      refine At.weak [(0, _), (2, _), (3, _), (5, _), (6, _), (7, _), (60, _)] ⟨rfl, rfl, rfl, rfl, rfl, rfl, rfl, trivial⟩ ?_
      refine At.go ?_
      refine Sc.ret ?_
      refine At.then_ret ?_
      refine At.retC (cs := inoC (fun _ => 0) []) rfl agg33 rfl rfl (fun j v hj => cellF hg20 hj) ?_
      obtain ⟨e1, e2, e3⟩ := tk_no hno
      exact ⟨_, rfl, by rw [e1, e2, e3], hF18.trans_to hf20 (fun k hk => .inr (by have : k = W.heap.size := hk; omega))⟩
    ·
      have hm := putI_may.1 (Decidable.not_not.1 h53)
      refine Sl.calm (Cm.move rfl) rfl ?_
      refine Sl.want rfl rfl (Cm.move rfl) rfl ?_
      refine Sl.want rfl rfl (Cm.strIn sl25 ty5 ty9 rfl ho3.vw) rfl ?_
      refine Sl.want rfl rfl (Cm.move rfl) rfl ?_
      refine Sl.want rfl rfl (Cm.strIn sl25 ty5 ty9 rfl (hv.grow hF18)) rfl ?_
      refine Sl.forkWant rfl rfl (Cm.neqBs rfl rfl) rfl (fun h59 => ?_) (fun h59 => ?_)
      ·
        have hno : ¬ TkOk b := fun h => h59 (by rw [putI_eq hm]; exact (take_iff hm).1 h.1)
        refine Sl.calm (Cm.pick_f rfl rfl) rfl ?_
        refine Sl.nil ?_
        refine At.weak [(0, _), (2, _), (5, _), (6, _), (7, _), (60, _)] ⟨rfl, rfl, rfl, rfl, rfl, rfl, trivial⟩ ?_
        refine At.go ?_
        refine Sc.cond_t rfl ?_
        refine Sc.seq ?_
        refine Sc.region ?_
        refine Sl.calm (Cm.build (cs := (inoC (fun _ => 0) []).toArray) plc33 zc33 rfl (by kernel_rfl)) rfl ?_
        refine Sl.storeAll (vs := inoC (fun _ => 0) []) agg33 rfl rfl (by intro v hv; exact inoC_one _ _ v hv) hr18 rfl ?_
        intro w20 hg20 hs20 hf20
        refine Sl.calm (Cm.assign rfl) rfl ?_
        refine Sl.nil ?_
        refine At.weak [(0, _), (2, _), (3, _), (5, _), (6, _), (7, _), (60, _)] ⟨rfl, rfl, rfl, rfl, rfl, rfl, rfl, trivial⟩ ?_
        refine At.go ?_
        refine Sc.ret ?_
        refine At.then_ret ?_
        refine At.retC (cs := inoC (fun _ => 0) []) rfl agg33 rfl rfl (fun j v hj => cellF hg20 hj) ?_
        obtain ⟨e1, e2, e3⟩ := tk_no hno
        exact ⟨_, rfl, by rw [e1, e2, e3], hF18.trans_to hf20 (fun k hk => .inr (by have : k = W.heap.size := hk; omega))⟩
      ·
        have hyes : TkOk b := ⟨(take_iff hm).2 (by rw [← putI_eq hm]; exact Decidable.not_not.1 h59), hm⟩
        refine Sl.calm (Cm.pick_f rfl rfl) rfl ?_
        refine Sl.nil ?_
        refine At.weak [(0, _), (2, _), (5, _), (6, _), (7, _), (60, _)] ⟨rfl, rfl, rfl, rfl, rfl, rfl, trivial⟩ ?_
        refine At.go ?_
        refine Sc.cond_f rfl ?_
        refine Sc.skip ?_
        refine At.go ?_
        refine Sc.seq ?_
        refine Sc.region ?_
        refine Sl.calm (Cm.ldM (cs := inoC (gFn b) (gT b)) agg33 rfl (fun j v hj => cellF hq18 hj)) rfl ?_
        refine Sl.storeAll (vs := inoC (gFn b) (gT b)) agg33 rfl rfl (by intro v hv; exact inoC_one _ _ v hv) hr18 rfl ?_
        intro w20 hg20 hs20 hf20
        refine Sl.calm (Cm.assign rfl) rfl ?_
        refine Sl.nil ?_
        refine At.weak [(0, _), (2, _), (3, _), (5, _), (6, _), (7, _), (60, _)] ⟨rfl, rfl, rfl, rfl, rfl, rfl, rfl, trivial⟩ ?_
        refine At.go ?_
        refine Sc.ret ?_
        refine At.retC (cs := inoC (gFn b) (gT b)) rfl agg33 rfl rfl (fun j v hj => cellF hg20 hj) ?_
        obtain ⟨e1, e2, e3⟩ := tk_yes hyes
        exact ⟨_, rfl, by rw [e1, e2, e3], hF18.trans_to hf20 (fun k hk => .inr (by have : k = W.heap.size := hk; omega))⟩
end Go.Proofs.Ytoaplldahbbaiaa
