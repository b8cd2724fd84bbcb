/- inode: Read, the reference's. No condition beyond the bounds that each states. -/
import Derived.Test.YtoaplldahbbaiaaIrAk
import Derived.Test.YtoaplldahbbaiaaKF
namespace Go.Proofs.Ytoaplldahbbaiaa
open Go Go.RowKit
set_option linter.unusedVariables false

theorem rlong_ok (o : Option Addr) (c : Nat) (h : List UInt8) (W : World) (hv : Vw b8 W.heap o c h) (hl : h.length = 14) :
    Calls Try.prog 66 [.slice o h.length c].toArray W (Ret fun v w' => v = .int .i64 (longR h) ∧ w' = W) := by
  refine calls_of_sc 18 [(0, _)] Try.func66 rfl rfl rfl (enter_slots ⟨rfl, trivial⟩) ?_
  refine Sc.seq ?_
  refine Sc.region ?_
  refine Sl.calm (Cm.assign rfl) rfl ?_
  refine Sl.nil ?_
  refine At.go ?_
  refine Sc.seq ?_
  refine Sc.seq ?_
  refine Sc.region ?_
  refine Sl.calm (Cm.move rfl) rfl ?_
  refine Sl.calm (Cm.indexAddr1 sl25 rfl rfl hv.non (by omega)) rfl ?_
  refine Sl.calm (Cm.ld sca5 rfl (hv.gz 0 0 rfl (by omega))) rfl ?_
  refine Sl.calm (Cm.convI_in (n := ((h.getD 0 0).toNat : Int)) is5 ty3 rfl (u8_i64 _)) rfl ?_
  refine Sl.nil ?_
  refine At.weak [(0, _), (2, _), (6, _)] ⟨rfl, rfl, rfl, trivial⟩ ?_
  refine At.go ?_
  refine Sc.block ?_
  refine Sc.seq ?_
  refine Sc.region ?_
  refine Sl.fork (Cm.eql rfl rfl) rfl (fun h8 => ?_) (fun h8 => ?_)
  ·
    have e : longR h = 22 := by unfold longR; rw [if_pos h8]
    refine Sl.calm (Cm.assign rfl) rfl ?_
    refine Sl.nil ?_
    refine At.weak [(0, _), (2, _), (6, _), (7, _)] ⟨rfl, rfl, rfl, rfl, trivial⟩ ?_
    refine At.go ?_
    refine Sc.cond_t rfl ?_
    refine Sc.seq ?_
    refine Sc.region ?_
    refine Sl.calm (Cm.assign rfl) rfl ?_
    refine Sl.nil ?_
    refine At.go ?_
    refine Sc.ret ?_
    refine At.block_ret ?_
    refine At.then_ret ?_
    refine At.ret1 rfl rfl ?_
    exact ⟨_, rfl, by rw [e], rfl⟩
  ·
    refine Sl.calm (Cm.assign rfl) rfl ?_
    refine Sl.nil ?_
    refine At.weak [(0, _), (2, _), (6, _), (7, _)] ⟨rfl, rfl, rfl, rfl, trivial⟩ ?_
    refine At.go ?_
    refine Sc.cond_f rfl ?_
    refine Sc.seq ?_
    refine Sc.region ?_
    refine Sl.fork (Cm.eql rfl rfl) rfl (fun h10 => ?_) (fun h10 => ?_)
    ·
      have e : longR h = 21 := by unfold longR; rw [if_neg h8, if_pos h10]
      refine Sl.calm (Cm.assign rfl) rfl ?_
      refine Sl.nil ?_
      refine At.weak [(0, _), (2, _), (6, _), (7, _), (9, _)] ⟨rfl, rfl, rfl, rfl, rfl, trivial⟩ ?_
      refine At.go ?_
      refine Sc.cond_t rfl ?_
      refine Sc.seq ?_
      refine Sc.region ?_
      refine Sl.calm (Cm.assign rfl) rfl ?_
      refine Sl.nil ?_
      refine At.go ?_
      refine Sc.ret ?_
      refine At.block_ret ?_
      refine At.then_ret ?_
      refine At.ret1 rfl rfl ?_
      exact ⟨_, rfl, by rw [e], rfl⟩
    ·
      refine Sl.calm (Cm.assign rfl) rfl ?_
      refine Sl.nil ?_
      refine At.weak [(0, _), (2, _), (6, _), (7, _), (9, _)] ⟨rfl, rfl, rfl, rfl, rfl, trivial⟩ ?_
      refine At.go ?_
      refine Sc.cond_f rfl ?_
      refine Sc.seq ?_
      refine Sc.region ?_
      refine Sl.fork (Cm.eql rfl rfl) rfl (fun h12 => ?_) (fun h12 => ?_)
      ·
        have e : longR h = 14 + (h.getD 13 0).toNat := by unfold longR; rw [if_neg h8, if_neg h10, if_pos h12]
        have hu := UInt8.toNat_lt (h.getD 13 0)
        refine Sl.calm (Cm.assign rfl) rfl ?_
        refine Sl.nil ?_
        refine At.weak [(0, _), (2, _), (6, _), (7, _), (9, _), (11, _)] ⟨rfl, rfl, rfl, rfl, rfl, rfl, trivial⟩ ?_
        refine At.go ?_
        refine Sc.cond_t rfl ?_
        refine Sc.seq ?_
        refine Sc.region ?_
        refine Sl.calm (Cm.move rfl) rfl ?_
        refine Sl.calm (Cm.indexAddr1 sl25 rfl rfl hv.non (by omega)) rfl ?_
        refine Sl.calm (Cm.ld sca5 rfl (hv.gz 0 13 rfl (by omega))) rfl ?_
        refine Sl.calm (Cm.convI_in (n := ((h.getD 13 0).toNat : Int)) is5 ty3 rfl (u8_i64 _)) rfl ?_
        refine Sl.calm (Cm.add64 rfl rfl (by omega)) rfl ?_
        refine Sl.calm (Cm.assign rfl) rfl ?_
        refine Sl.nil ?_
        refine At.weak [(0, _), (2, _), (6, _), (7, _), (9, _), (11, _)] ⟨rfl, rfl, rfl, rfl, rfl, rfl, trivial⟩ ?_
        refine At.go ?_
        refine Sc.ret ?_
        refine At.block_ret ?_
        refine At.then_ret ?_
        refine At.ret1 rfl rfl ?_
        exact ⟨_, rfl, by rw [e], rfl⟩
      ·
        have e : longR h = 0 := by unfold longR; rw [if_neg h8, if_neg h10, if_neg h12]
        refine Sl.calm (Cm.assign rfl) rfl ?_
        refine Sl.nil ?_
        refine At.weak [(0, _), (2, _), (6, _), (7, _), (9, _), (11, _)] ⟨rfl, rfl, rfl, rfl, rfl, rfl, trivial⟩ ?_
        refine At.go ?_
        refine Sc.cond_f rfl ?_
        refine Sc.skip ?_
        refine At.block_normal ?_
        refine At.go ?_
        refine Sc.seq ?_
        refine Sc.region ?_
        refine Sl.calm (Cm.assign rfl) rfl ?_
        refine Sl.nil ?_
        refine At.go ?_
        refine Sc.ret ?_
        refine At.ret1 rfl rfl ?_
        exact ⟨_, rfl, by rw [e], rfl⟩
set_option maxHeartbeats 4000000 in
theorem riread_ok (g : Nat) (io : Option Addr) (ic : Nat) (im : List UInt8) (fr to ref : Int) (W : World) (hM : RrV W.heap g io ic im fr to) (him : im.length ≤ 1099511627776) (href : -9223372036854775808 ≤ ref ∧ ref ≤ 9223372036854775807) :
    Calls Try.prog 36 [.pointer (some ⟨g, 0, none⟩), .int .i64 ref].toArray W (Ret fun v w' =>
      v = .tuple #[.agg (inoC (inoR im fr to ref).1.1 (inoR im fr to ref).1.2).toArray, .int .i64 (inoR im fr to ref).2.1, .int .i64 (inoR im fr to ref).2.2] ∧ Foot nob W w') := by
  obtain ⟨R, hR⟩ : ∃ R, R = readS im fr to ref 14 := ⟨_, rfl⟩
  obtain ⟨S, hS⟩ : ∃ S, S = readS im fr to ref (longR R.1) := ⟨_, rfl⟩
  obtain ⟨n1, n2⟩ := longR_b R.1
  obtain ⟨q, hq⟩ : ∃ q, q = W.heap.size := ⟨_, rfl⟩
  refine calls_of_sc 47 [(0, _), (1, _)] Try.func36 rfl rfl rfl (enter_slots ⟨rfl, rfl, trivial⟩) ?_
  refine Sc.seq ?_
  refine Sc.region ?_
  refine Sl.allocC zc33 rfl ?_
  intro w1 hg1 hs1 hf1
  rw [← hq] at hg1 ⊢
  have hg1 : w1.heap[q]? = some (.cells (inoC (fun _ => 0) []).toArray 33 (0, 0)) := hg1
  refine Sl.calm (Cm.assign rfl) rfl ?_
  refine Sl.calm (Cm.assign rfl) rfl ?_
  refine Sl.nil ?_
  refine At.go ?_
  refine Sc.seq ?_
  refine Sc.region ?_
  refine Sl.calm (Cm.move rfl) rfl ?_
  refine Sl.calm (Cm.move rfl) rfl ?_
  refine Sl.call fn62 rfl (rmread_ok g io ic im fr to ref 14 w1 (hM.grow hf1) him href (by decide)) rfl ?_
  rw [← hR]
  rintro _ w2 ⟨o2, c2, rfl, ho2, hfr2, hf2⟩
  have hg2 := hf2.obj hg1 id
  have hz2 := hf2.size
  have hF2 := hf1.trans hf2
  refine Sl.calm (Cm.move rfl) rfl ?_
  refine Sl.calm (Cm.extract rfl rfl) rfl ?_
  refine Sl.calm (Cm.extract rfl rfl) rfl ?_
  refine Sl.calm (Cm.extract rfl rfl) rfl ?_
  refine Sl.calm (Cm.assign rfl) rfl ?_
  refine Sl.calm (Cm.assign rfl) rfl ?_
  refine Sl.calm (Cm.assign rfl) rfl ?_
  refine Sl.nil ?_
  refine At.weak [(0, _), (1, _), (4, _), (5, _), (6, _), (7, _), (9, _)] ⟨rfl, rfl, rfl, rfl, rfl, rfl, rfl, trivial⟩ ?_
  refine At.go ?_
  refine Sc.seq ?_
  refine Sc.seq ?_
  refine Sc.region ?_
  refine Sl.calm (Cm.move rfl) rfl ?_
  refine Sl.fork (Cm.neq rfl rfl) rfl (fun h22 => ?_) (fun h22 => ?_)
  ·
    have e := inoR_1 (im := im) (fr := fr) (to := to) (ref := ref) (by rw [← hR]; exact h22)
    refine Sl.nil ?_
    refine At.weak [(0, _), (1, _), (4, _), (5, _), (6, _), (7, _), (9, _), (22, _)] ⟨rfl, rfl, rfl, rfl, rfl, rfl, rfl, rfl, trivial⟩ ?_
    refine At.go ?_
    refine Sc.cond_t rfl ?_
    refine Sc.seq ?_
    refine Sc.region ?_
    refine Sl.calm (Cm.build (cs := (inoC (fun _ => 0) []).toArray) plc33 zc33 rfl (by kernel_rfl)) rfl ?_
    refine Sl.storeAll (vs := inoC (fun _ => 0) []) agg33 rfl rfl (by intro v hv; exact inoC_one _ _ v hv) hg2 rfl ?_
    intro w20 hg20 hs20 hf20
    have hFx : Foot nob W w20 := hF2.trans_to hf20 (fun k hk => .inr (by have h : k = q := hk; omega))
    refine Sl.calm (Cm.assign rfl) rfl ?_
    refine Sl.calm (Cm.assign rfl) rfl ?_
    refine Sl.nil ?_
    refine At.weak [(0, _), (1, _), (4, _), (5, _), (6, _), (7, _), (9, _), (22, _)] ⟨rfl, rfl, rfl, rfl, rfl, rfl, rfl, rfl, trivial⟩ ?_
    refine At.go ?_
    refine Sc.ret ?_
    refine At.then_ret ?_
    refine At.retC3 (cs := inoC (fun _ => 0) []) rfl agg33 rfl rfl rfl (fun j v hj => cellF hg20 hj) ?_
    exact ⟨_, rfl, by rw [e], hFx⟩
  ·
    have e22 : R.2.2 = 0 := Decidable.not_not.1 h22
    have hlR : (R.1.length : Int) = 14 := by rw [hR] at e22 ⊢; exact (readS_ok e22).2.2.2.1
    refine Sl.nil ?_
    refine At.weak [(0, _), (1, _), (4, _), (5, _), (6, _), (7, _), (9, _), (22, _)] ⟨rfl, rfl, rfl, rfl, rfl, rfl, rfl, rfl, trivial⟩ ?_
    refine At.go ?_
    refine Sc.cond_f rfl ?_
    refine Sc.skip ?_
    refine At.go ?_
    refine Sc.seq ?_
    refine Sc.region ?_
    refine Sl.calm (Cm.move rfl) rfl ?_
    refine Sl.call fn66 rfl (rlong_ok o2 c2 R.1 w2 ho2.vw (by omega)) rfl ?_
    rintro _ w2 ⟨rfl, rfl⟩
    refine Sl.calm (Cm.assign rfl) rfl ?_
    refine Sl.nil ?_
    refine At.weak [(0, _), (1, _), (4, _), (5, _), (6, _), (7, _), (9, _), (10, _), (22, _)] ⟨rfl, rfl, rfl, rfl, rfl, rfl, rfl, rfl, rfl, trivial⟩ ?_
    refine At.go ?_
    refine Sc.seq ?_
    refine Sc.region ?_
    refine Sl.calm (Cm.move rfl) rfl ?_
    refine Sl.calm (Cm.move rfl) rfl ?_
    refine Sl.calm (Cm.move rfl) rfl ?_
    refine Sl.call fn62 rfl (rmread_ok g io ic im fr to ref (longR R.1) w2 ((hM.grow hf1).grow hf2) him href (by omega)) rfl ?_
    rw [← hS]
    rintro _ w8 ⟨o8, c8, rfl, ho8, hfr8, hf8⟩
    have hz8 := hf8.size
    have hq8 := hf8.obj hg2 id
    have hF8 := hF2.trans hf8
    refine Sl.calm (Cm.move rfl) rfl ?_
    refine Sl.calm (Cm.extract rfl rfl) rfl ?_
    refine Sl.calm (Cm.extract rfl rfl) rfl ?_
    refine Sl.calm (Cm.extract rfl rfl) rfl ?_
    refine Sl.calm (Cm.assign rfl) rfl ?_
    refine Sl.calm (Cm.assign rfl) rfl ?_
    refine Sl.calm (Cm.assign rfl) rfl ?_
    refine Sl.nil ?_
    refine At.weak [(0, _), (1, _), (4, _), (5, _), (6, _), (7, _), (9, _), (10, _), (11, _), (12, _), (22, _)] ⟨rfl, rfl, rfl, rfl, rfl, rfl, rfl, rfl, rfl, rfl, rfl, trivial⟩ ?_
    refine At.go ?_
    refine Sc.seq ?_
    refine Sc.seq ?_
    refine Sc.region ?_
    refine Sl.calm (Cm.move rfl) rfl ?_
    refine Sl.fork (Cm.neq rfl rfl) rfl (fun h35 => ?_) (fun h35 => ?_)
    ·
      have e : inoR im fr to ref = ((fun _ => 0, []), 0, 2) := by
        by_cases hl : longR R.1 = longI R.1
        · exact inoR_2 (by rw [← hR]; exact e22) (by rw [← hR, ← hl, ← hS]; exact h35)
        · exact inoR_other (by rw [← hR]; exact e22) (by rw [← hR]; exact hl)
      refine Sl.nil ?_
      refine At.weak [(0, _), (1, _), (4, _), (5, _), (6, _), (7, _), (9, _), (10, _), (11, _), (12, _), (22, _), (35, _)] ⟨rfl, rfl, rfl, rfl, rfl, rfl, rfl, rfl, rfl, rfl, rfl, rfl, trivial⟩ ?_
      refine At.go ?_
      refine Sc.cond_t rfl ?_
      refine Sc.seq ?_
      refine Sc.region ?_
      refine Sl.calm (Cm.build (cs := (inoC (fun _ => 0) []).toArray) plc33 zc33 rfl (by kernel_rfl)) rfl ?_
      refine Sl.storeAll (vs := inoC (fun _ => 0) []) agg33 rfl rfl (by intro v hv; exact inoC_one _ _ v hv) hq8 rfl ?_
      intro w20 hg20 hs20 hf20
      have hFx : Foot nob W w20 := hF8.trans_to hf20 (fun k hk => .inr (by have h : k = q := hk; omega))
      refine Sl.calm (Cm.assign rfl) rfl ?_
      refine Sl.calm (Cm.assign rfl) rfl ?_
      refine Sl.nil ?_
      refine At.weak [(0, _), (1, _), (4, _), (5, _), (6, _), (7, _), (9, _), (10, _), (11, _), (12, _), (22, _), (35, _)] ⟨rfl, rfl, rfl, rfl, rfl, rfl, rfl, rfl, rfl, rfl, rfl, rfl, trivial⟩ ?_
      refine At.go ?_
      refine Sc.ret ?_
      refine At.then_ret ?_
      refine At.retC3 (cs := inoC (fun _ => 0) []) rfl agg33 rfl rfl rfl (fun j v hj => cellF hg20 hj) ?_
      exact ⟨_, rfl, by rw [e], hFx⟩
    ·
      have e35 : S.2.2 = 0 := Decidable.not_not.1 h35
      have hlS : (S.1.length : Int) = longR R.1 := by rw [hS] at e35 ⊢; exact (readS_ok e35).2.2.2.1
      refine Sl.nil ?_
      refine At.weak [(0, _), (1, _), (4, _), (5, _), (6, _), (7, _), (9, _), (10, _), (11, _), (12, _), (22, _), (35, _)] ⟨rfl, rfl, rfl, rfl, rfl, rfl, rfl, rfl, rfl, rfl, rfl, rfl, trivial⟩ ?_
      refine At.go ?_
      refine Sc.cond_f rfl ?_
      refine Sc.skip ?_
      refine At.go ?_
      refine Sc.seq ?_
      refine Sc.region ?_
      refine Sl.calm (Cm.move rfl) rfl ?_
      refine Sl.call fn26 rfl (rtake_ok S.1 o8 c8 w8 ho8.vw (by omega)) rfl ?_
      rintro _ w9 ⟨rfl, hf9⟩
      have hq9 := hf9.obj hq8 id
      have hz9 := hf9.size
      refine Sl.calm (Cm.move rfl) rfl ?_
      refine Sl.calm (Cm.extract rfl rfl) rfl ?_
      refine Sl.calm (Cm.extract rfl rfl) rfl ?_
      refine Sl.allocC zc33 rfl ?_
      intro w10 hg10 hs10 hf10
      have hq10 := hf10.obj hq9 id
      refine Sl.storeAll (vs := inoC (tkF S.1) (tkT S.1)) agg33 rfl rfl (by intro v hv; exact inoC_one _ _ v hv) hg10 rfl ?_
      intro w11 hg11 hs11 hf11
      obtain ⟨q2, hq2⟩ : ∃ q2, q2 = w9.heap.size := ⟨_, rfl⟩
      rw [← hq2] at hg11 hf11 ⊢
      have hq11 := hf11.obj hq10 (fun h => by have h : q = q2 := h; omega)
      have hF11 : Foot nob W w11 := ((hF8.trans hf9).trans hf10).trans_to hf11 (fun k hk => .inr (by have h : k = q2 := hk; have := hF8.size; omega))
      refine Sl.calm (Cm.assign rfl) rfl ?_
      refine Sl.nil ?_
      refine At.weak [(0, _), (1, _), (4, _), (5, _), (6, _), (7, _), (9, _), (10, _), (11, _), (12, _), (13, _), (22, _), (35, _)] ⟨rfl, rfl, rfl, rfl, rfl, rfl, rfl, rfl, rfl, rfl, rfl, rfl, rfl, trivial⟩ ?_
      refine At.go ?_
      refine Sc.seq ?_
      refine Sc.seq ?_
      refine Sc.region ?_
      refine Sl.calm (Cm.move rfl) rfl ?_
      refine Sl.fork (Cm.neq rfl rfl) rfl (fun h43 => ?_) (fun h43 => ?_)
      ·
        have hno : ¬ TkOk S.1 := fun h => h43 (tk_yes h).2.2
        have e : inoR im fr to ref = ((fun _ => 0, []), 0, 2) := by
          by_cases hl : longR R.1 = longI R.1
          · exact inoR_3 (by rw [← hR]; exact e22) (by rw [← hR, ← hl, ← hS]; exact e35) (by rw [← hR, ← hl, ← hS]; exact hno)
          · exact inoR_other (by rw [← hR]; exact e22) (by rw [← hR]; exact hl)
        refine Sl.nil ?_
        refine At.weak [(0, _), (1, _), (4, _), (5, _), (6, _), (7, _), (9, _), (10, _), (11, _), (12, _), (13, _), (22, _), (35, _), (43, _)] ⟨rfl, rfl, rfl, rfl, rfl, rfl, rfl, rfl, rfl, rfl, rfl, rfl, rfl, rfl, trivial⟩ ?_
        refine At.go ?_
        refine Sc.cond_t rfl ?_
        refine Sc.seq ?_
        refine Sc.region ?_
        refine Sl.calm (Cm.build (cs := (inoC (fun _ => 0) []).toArray) plc33 zc33 rfl (by kernel_rfl)) rfl ?_
        refine Sl.storeAll (vs := inoC (fun _ => 0) []) agg33 rfl rfl (by intro v hv; exact inoC_one _ _ v hv) hq11 rfl ?_
        intro w20 hg20 hs20 hf20
        have hFx : Foot nob W w20 := hF11.trans_to hf20 (fun k hk => .inr (by have h : k = q := hk; omega))
        refine Sl.calm (Cm.assign rfl) rfl ?_
        refine Sl.calm (Cm.assign rfl) rfl ?_
        refine Sl.nil ?_
        refine At.weak [(0, _), (1, _), (4, _), (5, _), (6, _), (7, _), (9, _), (10, _), (11, _), (12, _), (13, _), (22, _), (35, _), (43, _)] ⟨rfl, rfl, rfl, rfl, rfl, rfl, rfl, rfl, rfl, rfl, rfl, rfl, rfl, rfl, trivial⟩ ?_
        refine At.go ?_
        refine Sc.ret ?_
        refine At.then_ret ?_
        refine At.retC3 (cs := inoC (fun _ => 0) []) rfl agg33 rfl rfl rfl (fun j v hj => cellF hg20 hj) ?_
        exact ⟨_, rfl, by rw [e], hFx⟩
      ·
        have hyes : TkOk S.1 := tk_zero (Decidable.not_not.1 h43)
        have hl : longR R.1 = longI R.1 := Classical.byContradiction fun hl => by
          have h1 := hlS
          rw [(no_kind hl).1] at h1
          have h2 : S.1 = [] := List.eq_nil_of_length_eq_zero (by omega)
          exact noTk_nil (h2 ▸ hyes)
        rw [hl] at hS
        have e := inoR_4 (im := im) (fr := fr) (to := to) (ref := ref) (by rw [← hR]; exact e22) (by rw [← hR, ← hS]; exact e35) (by rw [← hR, ← hS]; exact hyes)
        obtain ⟨k1, k2, k3⟩ := tk_yes hyes
        rw [k1, k2] at hg11
        refine Sl.nil ?_
        refine At.weak [(0, _), (1, _), (4, _), (5, _), (6, _), (7, _), (9, _), (10, _), (11, _), (12, _), (13, _), (22, _), (35, _), (43, _)] ⟨rfl, rfl, rfl, rfl, rfl, rfl, rfl, rfl, rfl, rfl, rfl, rfl, rfl, rfl, trivial⟩ ?_
        refine At.go ?_
        refine Sc.cond_f rfl ?_
        refine Sc.skip ?_
        refine At.go ?_
        refine Sc.seq ?_
        refine Sc.region ?_
        refine Sl.calm (Cm.ldM (cs := inoC (gFn S.1) (gT S.1)) agg33 rfl (fun j v hj => cellF hg11 hj)) rfl ?_
        refine Sl.calm (Cm.move rfl) rfl ?_
        refine Sl.storeAll (vs := inoC (gFn S.1) (gT S.1)) agg33 rfl rfl (by intro v hv; exact inoC_one _ _ v hv) hq11 rfl ?_
        intro w20 hg20 hs20 hf20
        have hFx : Foot nob W w20 := hF11.trans_to hf20 (fun k hk => .inr (by have h : k = q := hk; omega))
        refine Sl.calm (Cm.assign rfl) rfl ?_
        refine Sl.calm (Cm.assign rfl) rfl ?_
        refine Sl.nil ?_
        refine At.weak [(0, _), (1, _), (4, _), (5, _), (6, _), (7, _), (9, _), (10, _), (11, _), (12, _), (13, _), (22, _), (35, _), (43, _)] ⟨rfl, rfl, rfl, rfl, rfl, rfl, rfl, rfl, rfl, rfl, rfl, rfl, rfl, rfl, trivial⟩ ?_
        refine At.go ?_
        refine Sc.ret ?_
        refine At.retC3 (cs := inoC (gFn S.1) (gT S.1)) rfl agg33 rfl rfl rfl (fun j v hj => cellF hg20 hj) ?_
        exact ⟨_, rfl, by rw [e, ← hR, ← hS], hFx⟩
end Go.Proofs.Ytoaplldahbbaiaa
