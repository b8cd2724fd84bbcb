/- merge: the law MergeFolds. No condition beyond the bounds that it states. -/
import Derived.Test.YtpamandneifemaaMgQk
namespace Go.Proofs.Ytpamandneifemaa
open Go Go.RowKit Go.Maps
set_option linter.unusedVariables false

variable {D : Nat → Prop}
set_option maxHeartbeats 8000000 in
theorem mergeFolds_ok (lo : Option Addr) (lc : Nat) (hs : List Hd) (Ls : Lys) (W : World) (hv : LysV D W.heap lo lc hs Ls) (hw : ∀ ps ∈ Ls, ∀ p ∈ ps, okN p.2 ∧ smN p.2) :
    Calls Try.prog 7 [.slice lo Ls.length lc].toArray W (Ret fun v w' => v = .bool true ∧ Foot nob W w') := by
  refine calls_of_sc 31 [(0, _)] Try.func7 rfl rfl rfl (enter_slots ⟨rfl, trivial⟩) ?_
  refine Sc.seq ?_
  refine Sc.region ?_
  refine Sl.calm (Cm.assign rfl) rfl ?_
  refine Sl.nil ?_
  refine At.go ?_
  refine Sc.seq ?_
  refine Sc.region ?_
  refine Sl.call fn10 rfl (mshown_ok W) rfl ?_
  rintro _ w1 ⟨rfl, hf1⟩
  refine Sl.calm (Cm.assign rfl) rfl ?_
  refine Sl.nil ?_
  refine At.weak [(0, _), (2, _), (3, _)] ⟨rfl, rfl, rfl, trivial⟩ ?_
  refine At.go ?_
  refine Sc.seq ?_
  refine Sc.region ?_
  refine Sl.calm (Cm.move rfl) rfl ?_
  refine Sl.call fn11 rfl (fewU_ok lo lc hs Ls w1 (hv.grow hf1) hw) rfl ?_
  rintro _ w2 ⟨o, c, hs2, L2, rfl, hv2, hgu, hl5, hl1, hf2⟩
  have hg := gduA hgu
  have hF2 := hf1.trans hf2
  have hT := offU hgu hl5
  rw [← hv2.2.1]
  have hll := hv2.2.1
  refine Sl.calm (Cm.assign rfl) rfl ?_
  refine Sl.nil ?_
  refine At.weak [(0, _), (2, _), (3, _)] ⟨rfl, rfl, rfl, trivial⟩ ?_
  refine At.go ?_
  refine Sc.seq ?_
  refine Sc.seq ?_
  refine Sc.region ?_
  refine Sl.calm (Cm.move rfl) rfl ?_
  refine Sl.calm (Cm.len sl22 rfl) rfl ?_
  refine Sl.fork (Cm.lss rfl rfl) rfl (fun h12 => ?_) (fun h12 => ?_)
  ·
    refine Sl.nil ?_
    refine At.weak [(0, _), (2, _), (3, _), (12, _)] ⟨rfl, rfl, rfl, rfl, trivial⟩ ?_
    refine At.go ?_
    refine Sc.cond_t rfl ?_
    refine Sc.seq ?_
    refine Sc.region ?_
    refine Sl.calm (Cm.move rfl) rfl ?_
    refine Sl.calm (Cm.assign rfl) rfl ?_
    refine Sl.nil ?_
    refine At.weak [(0, _), (2, _), (3, _), (12, _)] ⟨rfl, rfl, rfl, rfl, trivial⟩ ?_
    refine At.go ?_
    refine Sc.ret ?_
    refine At.then_ret ?_
    refine At.ret1 rfl rfl ?_
    first
      | exact ⟨_, rfl, rfl, hF2.trans (hF6.trans hf7)⟩
      | exact ⟨_, rfl, rfl, hF2⟩
  ·
    obtain ⟨h, ht, rfl⟩ : ∃ h ht, hs2 = h :: ht := by
      rcases hs2 with _ | ⟨a, b⟩
      · exact absurd (by decide) h12
      · exact ⟨a, b, rfl⟩
    obtain ⟨ps, rest, rfl⟩ : ∃ ps rest, L2 = ps :: rest := by
      rcases L2 with _ | ⟨a, b⟩
      · simp at hll
      · exact ⟨a, b, rfl⟩
    have hll : ht.length = rest.length := by simpa using hll
    have hl5 : rest.length + 1 ≤ 5 := hl5
    obtain ⟨hn, hvn⟩ := hv2.2.2 0 h ps rfl rfl
    have hgp := hgu ps (by simp)
    have hp25 := hgp.2.1
    have hguT : ∀ x ∈ rest, GdU x := fun x hx => hgu x (by simp [hx])
    have hgT := gduA hguT
    have hoT := offU hguT (by omega)
    have hne : rest ≠ [] := fun e => by
      subst e
      have h12 : ¬ (((ht.length + 1 : Nat) : Int) < 2) := h12
      rw [hll] at h12; exact h12 (by decide)
    have hvA : NodesV (fun _ => True) w2.heap h.a h.c ps := ⟨hvn.1, fun p hp => (hvn.2 p hp).mono (fun _ _ => trivial)⟩
    have hvT2 : LysV D w2.heap (cutAo o c 1 1) (c - 1) ht rest := ⟨Vw.drop1 hv2.1, hll, fun i x y e1 e2 => hv2.2.2 (i + 1) x y e1 e2⟩
    refine Sl.nil ?_
    refine At.weak [(0, _), (2, _), (3, _), (12, _)] ⟨rfl, rfl, rfl, rfl, trivial⟩ ?_
    refine At.go ?_
    refine Sc.cond_f rfl ?_
    refine Sc.skip ?_
    refine At.go ?_
    refine Sc.seq ?_
    refine Sc.region ?_
    refine Sl.calm (Cm.move rfl) rfl ?_
    refine Sl.call fn12 rfl (mergeH_ok o c _ _ w2 hv2 hg (by simp only [List.length_cons]; omega) (by omega)) rfl ?_
    rintro _ w3 ⟨o3, c3, xs, rfl, hox, hxn, hxv, hfx, hf3⟩
    have hv3 := hv2.grow hf3
    have hvT := hvT2.grow hf3
    refine Sl.calm (Cm.assign rfl) rfl ?_
    refine Sl.nil ?_
    refine At.weak [(0, _), (2, _), (3, _), (4, _), (12, _)] ⟨rfl, rfl, rfl, rfl, rfl, trivial⟩ ?_
    refine At.go ?_
    refine Sc.seq ?_
    refine Sc.draw 9 (fun H => Vw hd H o c (h :: ht)) [5, 6, 7] [0, 1, 2, 3, 4, 5, 6, 7, 8] mixed (by kernel_rfl) (hv3.1) ?_
    refine Sx.calm rfl rfl (Cm.move rfl) rfl ?_
    refine Sx.calm rfl rfl (Cm.indexAddr1 sl22 rfl rfl hv3.1.non (by simp)) rfl ?_
    refine Sx.calm rfl rfl (Cm.ofEq (u := hd h) (Cm.load sca25 rfl (fun H hH => hH.get 0 h rfl)) rfl) rfl ?_
    refine Sx.calm rfl rfl (Cm.move rfl) rfl ?_
    refine Sx.calm rfl rfl (Cm.ofEq (u := .slice (cutAo o c 1 1) ht.length (c - 1)) (Cm.sliceL sl22 rfl rfl (by simp only [List.length_cons]; omega)) (by simp)) rfl ?_
    refine Sx.eff rfl rfl (Sl.call fn12 rfl (mergeH_ok _ _ ht rest _ (hvT.grow (Foot.ofDraws 1)) hgT (by omega) (by omega)) rfl ?_)
    rintro _ w4 ⟨o4, c4, zs, rfl, hoz, hzn, hzv, hfz, hf4⟩
    have hf4 := hf4.undraw
    have hF4 := hf3.trans hf4
    have hm : Mof rest zs := ⟨hgT, vis_good (gduU hguT) hgT (by omega) hne, hzn⟩
    have hzl := hm.gdL.2.2
    refine Sx.on (by exact (hv3.grow hf4).1) ?_
    refine Sx.eff rfl rfl (Sl.lit2 (enc := hd) (u := h) (u' := ⟨o4, zs.length, c4⟩) sl22 hd_one rfl rfl rfl ?_)
    intro w5 ho5 hs5 hf5
    have hF5 := hF4.trans hf5
    obtain ⟨g5, eg5⟩ : ∃ g, g = w4.heap.size := ⟨_, rfl⟩
    rw [← eg5] at ho5 ⊢
    refine Sx.on (by exact (hv2.grow hF5).1) ?_
    refine Sx.eff rfl rfl (Sl.call fn12 rfl (mergeH_ok (some ⟨g5, 0, none⟩) 2 [h, ⟨o4, zs.length, c4⟩] [ps, zs] w5 (lys2D ho5 (hvA.grow hF5) ((NodesV.all hoz hzv).grow hf5) hn rfl) (gdA2 hgp.gd hm.gdL) (by show (2 : Nat) ≤ 1000; decide) (by show (ps.length + (zs.length + 0) : Nat) ≤ 100000; omega)) rfl ?_)
    rintro _ w6 ⟨o6, c6, ys, rfl, hoy, hyn, hyv, hfy, hf6⟩
    have hF6 := hF5.trans hf6
    refine Sx.on (by exact (hv2.grow hF6).1) ?_
    refine Sx.calm rfl rfl (Cm.assign rfl) rfl ?_
    refine Sx.nil ?_
    refine At.weak [(0, _), (2, _), (3, _), (4, _), (5, _), (12, _)] ⟨rfl, rfl, rfl, rfl, rfl, rfl, trivial⟩ ?_
    refine At.go ?_
    refine Sc.seq ?_
    refine Sc.region ?_
    refine Sl.calm (Cm.move rfl) rfl ?_
    refine Sl.calm (Cm.move rfl) rfl ?_
    refine Sl.call fn14 rfl (rsameN_ok (D := fun _ => True) (D' := fun _ => True) o3 o6 c3 c6 xs ys w6 ((NodesV.all hox hxv).grow (hf4.trans (hf5.trans hf6))) (NodesV.all hoy hyv)) rfl ?_
    rintro v7 w7 ⟨hb, _, hf7⟩
    obtain rfl := hb.2 (by rw [hxn, hyn, fold_same hm hgp.gd])
    refine Sl.calm (Cm.assign rfl) rfl ?_
    refine Sl.nil ?_
    refine At.weak [(0, _), (2, _), (3, _), (4, _), (5, _), (6, _), (12, _)] ⟨rfl, rfl, rfl, rfl, rfl, rfl, rfl, trivial⟩ ?_
    refine At.go ?_
    refine Sc.seq ?_
    refine Sc.region ?_
    refine Sl.calm (Cm.move rfl) rfl ?_
    refine Sl.calm (Cm.move rfl) rfl ?_
    refine Sl.want rfl rfl (Cm.move rfl) rfl ?_
    refine Sl.calm (Cm.pick_t rfl rfl) rfl ?_
    refine Sl.calm (Cm.assign rfl) rfl ?_
    refine Sl.nil ?_
    refine At.weak [(0, _), (2, _), (3, _), (4, _), (5, _), (6, _), (12, _)] ⟨rfl, rfl, rfl, rfl, rfl, rfl, rfl, trivial⟩ ?_
    refine At.go ?_
    refine Sc.ret ?_
    refine At.ret1 rfl rfl ?_
    first
      | exact ⟨_, rfl, rfl, hF2.trans (hF6.trans hf7)⟩
      | exact ⟨_, rfl, rfl, hF2⟩
end Go.Proofs.Ytpamandneifemaa
