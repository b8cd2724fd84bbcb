/- attributes: the reference's Xattrs. No condition beyond the bounds that each states. -/
import Derived.Test.YtpamandneifemaaXak
namespace Go.Proofs.Ytpamandneifemaa
open Go Go.RowKit
set_option linter.unusedVariables false

theorem nul_ok (s : List UInt8) (W : World) (hs : s.length ≤ maxLen) : Calls Try.prog 54 [.string (bs s)].toArray W (Ret fun v w' => v = .bool (decide ((0 : UInt8) ∈ s)) ∧ w' = W) := by
  have hl : (s.length : Int) ≤ 9223372036854775807 := by unfold maxLen at hs; omega
  refine calls_of_sc 14 [(0, _)] Try.func54 rfl rfl rfl (enter_slots ⟨rfl, trivial⟩) ?_
  refine Sc.seq ?_
  refine Sc.region ?_
  refine Sl.calm (Cm.assign rfl) rfl ?_
  refine Sl.nil ?_
  refine At.go ?_
  refine Sc.seq ?_
  refine Sc.seq ?_
  refine Sc.region ?_
  refine Sl.calm (Cm.assign rfl) rfl ?_
  refine Sl.nil ?_
  refine At.go ?_
  refine Sc.block ?_
  refine Sc.loop (β := Nat) (fun k => [(0, .string (bs s)), (3, .int .i64 k)]) (fun k w => k ≤ s.length ∧ (∀ i, i < k → s.getD i 0 ≠ 0) ∧ w = W) (fun k => s.length - k) 0 ⟨rfl, rfl, trivial⟩ ⟨Nat.zero_le _, by intro i hi; omega, rfl⟩ ?_
  rintro k w2 ⟨hk, hgood, hw2⟩
  subst hw2
  refine Sc.seq ?_
  refine Sc.seq ?_
  refine Sc.region ?_
  refine Sl.calm (Cm.move rfl) rfl ?_
  refine Sl.calm (Cm.move rfl) rfl ?_
  refine Sl.calm (Cm.lenBs ty9 rfl) rfl ?_
  refine Sl.fork (Cm.lss rfl rfl) rfl (fun h7 => ?_) (fun h7 => ?_)
  ·
    refine Sl.nil ?_
    refine At.weak [(0, _), (3, _), (7, _)] ⟨rfl, rfl, rfl, trivial⟩ ?_
    refine At.go ?_
    refine Sc.cond_t rfl ?_
    refine Sc.skip ?_
    refine At.go ?_
    refine Sc.seq ?_
    refine Sc.block ?_
    refine Sc.seq ?_
    refine Sc.region ?_
    refine Sl.calm (Cm.move rfl) rfl ?_
    refine Sl.calm (Cm.move rfl) rfl ?_
    refine Sl.calm (Cm.idxS ty9 rfl rfl (by omega)) rfl ?_
    refine Sl.fork (Cm.eql rfl rfl) rfl (fun h13 => ?_) (fun h13 => ?_)
    ·
      refine Sl.nil ?_
      refine At.weak [(0, _), (3, _), (7, _), (13, _)] ⟨rfl, rfl, rfl, rfl, trivial⟩ ?_
      refine At.go ?_
      refine Sc.cond_t rfl ?_
      refine Sc.seq ?_
      refine Sc.region ?_
      refine Sl.calm (Cm.assign rfl) rfl ?_
      refine Sl.nil ?_
      refine At.go ?_
      refine Sc.ret ?_
      refine At.block_ret ?_
      refine At.then_ret ?_
      refine At.then_ret ?_
      refine At.block_ret ?_
      refine At.then_ret ?_
      refine At.ret1 rfl rfl ?_
      refine ⟨_, rfl, ?_, rfl⟩
      rw [decide_eq_true]
      have e : s.getD k 0 = 0 := UInt8.toNat_inj.1 (by have : ((s.getD ((k : Int)).toNat 0).toNat : Int) = 0 := h13; have e2 : ((k : Int)).toNat = k := rfl; rw [e2] at this; show _ = 0; omega)
      have hk2 : k < s.length := by omega
      rw [List.getD, List.getElem?_eq_getElem hk2] at e
      rw [← e]; exact List.getElem_mem hk2
    ·
      refine Sl.nil ?_
      refine At.weak [(0, _), (3, _), (7, _), (13, _)] ⟨rfl, rfl, rfl, rfl, trivial⟩ ?_
      refine At.go ?_
      refine Sc.cond_f rfl ?_
      refine Sc.skip ?_
      refine At.block_normal ?_
      refine At.go ?_
      refine Sc.region ?_
      refine Sl.calm (Cm.move rfl) rfl ?_
      refine Sl.calm (Cm.add64 rfl rfl (by omega)) rfl ?_
      refine Sl.calm (Cm.assign rfl) rfl ?_
      refine Sl.nil ?_
      refine At.again (k + 1) ⟨rfl, rfl, trivial⟩ ?_ (by show s.length - (k + 1) < s.length - k; omega)
      refine ⟨by omega, fun i hi => ?_, rfl⟩
      by_cases hik : i = k
      · subst hik; intro e; exact h13 (by rw [show ((i : Int)).toNat = i from rfl, e]; rfl)
      · exact hgood i (by omega)
  ·
    refine Sl.nil ?_
    refine At.weak [(0, _), (3, _), (7, _)] ⟨rfl, rfl, rfl, trivial⟩ ?_
    refine At.go ?_
    refine Sc.cond_f rfl ?_
    refine Sc.exit ?_
    refine At.then_exit ?_
    refine At.then_exit ?_
    refine At.block_hit ?_
    refine At.go ?_
    refine Sc.seq ?_
    refine Sc.region ?_
    refine Sl.calm (Cm.assign rfl) rfl ?_
    refine Sl.nil ?_
    refine At.go ?_
    refine Sc.ret ?_
    refine At.ret1 rfl rfl ?_
    refine ⟨_, rfl, ?_, rfl⟩
    rw [decide_eq_false]
    intro h0
    obtain ⟨i, hi, e⟩ := List.getElem_of_mem h0
    exact hgood i (by omega) (by simp [List.getD, hi, e])

set_option maxHeartbeats 1000000 in
theorem rmayX_ok (xo : Option Addr) (xc : Nat) (X : List Xa) (W : World) (hv : XaV W.heap xo xc X) :
    Calls Try.prog 55 [.slice xo X.length xc].toArray W (Ret fun v w' => v = .bool (decide (mayX X)) ∧ Foot nob W w') := by
  have hl := hv.len63
  refine calls_of_sc 56 [(0, _)] Try.func55 rfl rfl rfl (enter_slots ⟨rfl, trivial⟩) ?_
  refine Sc.seq ?_
  refine Sc.region ?_
  refine Sl.calm (Cm.assign rfl) rfl ?_
  refine Sl.nil ?_
  refine At.go ?_
  refine Sc.seq ?_
  refine Sc.seq ?_
  refine Sc.region ?_
  refine Sl.calm (Cm.assign rfl) rfl ?_
  refine Sl.nil ?_
  refine At.go ?_
  refine Sc.block ?_
  refine Sc.loop (β := Nat) (fun k => [(0, .slice xo X.length xc), (3, .int .i64 k)]) (fun k w => k ≤ X.length ∧ (∀ i, i < k → goodX X i) ∧ Foot nob W w) (fun k => X.length - k) 0 ⟨rfl, rfl, trivial⟩ ⟨Nat.zero_le _, by intro i hi; omega, Foot.refl _ _⟩ ?_
  rintro k w2 ⟨hk, hgood, hF2⟩
  refine Sc.seq ?_
  refine Sc.seq ?_
  refine Sc.region ?_
  refine Sl.calm (Cm.move rfl) rfl ?_
  refine Sl.calm (Cm.move rfl) rfl ?_
  refine Sl.calm (Cm.len sl33 rfl) rfl ?_
  refine Sl.fork (Cm.lss rfl rfl) rfl (fun h9 => ?_) (fun h9 => ?_)
  ·
    refine Sl.nil ?_
    refine At.weak [(0, _), (3, _), (9, _)] ⟨rfl, rfl, rfl, trivial⟩ ?_
    refine At.go ?_
    refine Sc.cond_t rfl ?_
    refine Sc.skip ?_
    refine At.go ?_
    refine Sc.seq ?_
    refine Sc.block ?_
    refine Sc.seq ?_
    refine Sc.region ?_
    refine Sl.calm (Cm.move rfl) rfl ?_
    refine Sl.calm (Cm.move rfl) rfl ?_
    obtain ⟨xa, xc2, hrow, hxv, hnl⟩ := (hv.grow hF2).at (i := k) rfl (by omega)
    refine Sl.calm (Cm.indexAddr sl33 rfl rfl hv.non (by omega)) rfl ?_
    refine Sl.calm (Cm.ldM (cs := [.string (bs (X.getD k x0).1), .slice xa (X.getD k x0).2.length xc2]) agg70 rfl hrow) rfl ?_
    refine Sl.allocC zc70 rfl ?_
    intro w3 hg3 hs3 hf3
    refine Sl.storeAll (vs := [.string (bs (X.getD k x0).1), .slice xa (X.getD k x0).2.length xc2]) agg70 rfl rfl (by simp [Value.oneCell']) hg3 rfl ?_
    intro w4 hg4 hs4 hf4
    have hF4 : Foot nob W w4 := hF2.trans (hf3.trans_to hf4 (fun k hk => .inr (by omega)))
    refine Sl.nil ?_
    refine At.weak [(0, _), (3, _), (4, _), (9, _)] ⟨rfl, rfl, rfl, rfl, trivial⟩ ?_
    refine At.go ?_
    refine Sc.seq ?_
    refine Sc.region ?_
    refine Sl.calm (Cm.field fld70_0 rfl) rfl ?_
    refine Sl.calm (Cm.ld sca9 rfl (cellF hg4 rfl)) rfl ?_
    refine Sl.call fn54 rfl (nul_ok _ w4 hnl) rfl ?_
    rintro _ w5 ⟨rfl, hw5⟩
    subst w5
    refine Sl.calm (Cm.assign rfl) rfl ?_
    refine Sl.nil ?_
    refine At.weak [(0, _), (3, _), (4, _), (5, _), (9, _)] ⟨rfl, rfl, rfl, rfl, rfl, trivial⟩ ?_
    refine At.go ?_
    refine Sc.seq ?_
    refine Sc.quiet 34 [0, 1, 2, 3, 4, 5, 6, 7, 8, 9, 10, 11, 12, 13, 14, 15, 16, 17, 18, 19, 20, 21, 22, 23, 24, 25, 26, 27, 28, 29, 30, 31, 32, 33] mixed (by kernel_rfl) ?_
    refine Sx.calm rfl rfl (Cm.field fld70_0 rfl) rfl ?_
    refine Sx.calm rfl rfl (Cm.ld sca9 rfl (cellF hg4 rfl)) rfl ?_
    refine Sx.calm rfl rfl (Cm.lenBs ty9 rfl) rfl ?_
    refine Sx.fork rfl rfl (Cm.lss rfl rfl) rfl (fun h22 => ?_) (fun h22 => ?_)
    ·
      have hbad : ¬ mayX X := fun h => by have := (h.1 k (by omega)).1; have := List.length_pos_iff.2 (less_ne this); omega
      refine Sx.calm rfl rfl (Cm.move rfl) rfl ?_
      refine Sx.skip rfl rfl rfl rfl rfl rfl ?_
      refine Sx.skip rfl rfl rfl rfl rfl rfl ?_
      refine Sx.skip rfl rfl rfl rfl rfl rfl ?_
      refine Sx.skip rfl rfl rfl rfl rfl rfl ?_
      refine Sx.calm rfl rfl (Cm.pick_t rfl rfl) rfl ?_
      refine Sx.calm rfl rfl (Cm.move rfl) rfl ?_
      refine Sx.skip rfl rfl rfl rfl rfl rfl ?_
      refine Sx.calm rfl rfl (Cm.pick_t rfl rfl) rfl ?_
      refine Sx.calm rfl rfl (Cm.move rfl) rfl ?_
      refine Sx.skip rfl rfl rfl rfl rfl rfl ?_
      refine Sx.skip rfl rfl rfl rfl rfl rfl ?_
      refine Sx.skip rfl rfl rfl rfl rfl rfl ?_
      refine Sx.skip rfl rfl rfl rfl rfl rfl ?_
      refine Sx.calm rfl rfl (Cm.pick_t rfl rfl) rfl ?_
      refine Sx.calm rfl rfl (Cm.move rfl) rfl ?_
      refine Sx.skip rfl rfl rfl rfl rfl rfl ?_
      refine Sx.skip rfl rfl rfl rfl rfl rfl ?_
      refine Sx.skip rfl rfl rfl rfl rfl rfl ?_
      refine Sx.skip rfl rfl rfl rfl rfl rfl ?_
      refine Sx.skip rfl rfl rfl rfl rfl rfl ?_
      refine Sx.skip rfl rfl rfl rfl rfl rfl ?_
      refine Sx.skip rfl rfl rfl rfl rfl rfl ?_
      refine Sx.skip rfl rfl rfl rfl rfl rfl ?_
      refine Sx.skip rfl rfl rfl rfl rfl rfl ?_
      refine Sx.skip rfl rfl rfl rfl rfl rfl ?_
      refine Sx.skip rfl rfl rfl rfl rfl rfl ?_
      refine Sx.skip rfl rfl rfl rfl rfl rfl ?_
      refine Sx.skip rfl rfl rfl rfl rfl rfl ?_
      refine Sx.calm rfl rfl (Cm.pick_t rfl rfl) rfl ?_
      refine Sx.nil ?_
      refine At.weak [(0, _), (3, _), (4, _), (5, _), (9, _), (52, _)] ⟨rfl, rfl, rfl, rfl, rfl, rfl, trivial⟩ ?_
      refine At.go ?_
      refine Sc.cond_t rfl ?_
      refine Sc.seq ?_
      refine Sc.region ?_
      refine Sl.calm (Cm.assign rfl) rfl ?_
      refine Sl.nil ?_
      refine At.go ?_
      refine Sc.ret ?_
      refine At.block_ret ?_
      refine At.then_ret ?_
      refine At.then_ret ?_
      refine At.block_ret ?_
      refine At.then_ret ?_
      refine At.ret1 rfl rfl ?_
      exact ⟨_, rfl, by rw [decide_eq_false hbad], hF4.draws 1⟩
    ·
      refine Sx.calm rfl rfl (Cm.move rfl) rfl ?_
      refine Sx.want rfl rfl rfl rfl (Cm.field fld70_0 rfl) rfl ?_
      refine Sx.want rfl rfl rfl rfl (Cm.ld sca9 rfl (cellF hg4 rfl)) rfl ?_
      refine Sx.want rfl rfl rfl rfl (Cm.lenBs ty9 rfl) rfl ?_
      refine Sx.forkWant rfl rfl rfl rfl (Cm.gtr rfl rfl) rfl (fun h27 => ?_) (fun h27 => ?_)
      ·
        have hbad : ¬ mayX X := fun h => by have := (h.1 k (by omega)).2.1; omega
        refine Sx.calm rfl rfl (Cm.pick_f rfl rfl) rfl ?_
        refine Sx.calm rfl rfl (Cm.move rfl) rfl ?_
        refine Sx.skip rfl rfl rfl rfl rfl rfl ?_
        refine Sx.calm rfl rfl (Cm.pick_t rfl rfl) rfl ?_
        refine Sx.calm rfl rfl (Cm.move rfl) rfl ?_
        refine Sx.skip rfl rfl rfl rfl rfl rfl ?_
        refine Sx.skip rfl rfl rfl rfl rfl rfl ?_
        refine Sx.skip rfl rfl rfl rfl rfl rfl ?_
        refine Sx.skip rfl rfl rfl rfl rfl rfl ?_
        refine Sx.calm rfl rfl (Cm.pick_t rfl rfl) rfl ?_
        refine Sx.calm rfl rfl (Cm.move rfl) rfl ?_
        refine Sx.skip rfl rfl rfl rfl rfl rfl ?_
        refine Sx.skip rfl rfl rfl rfl rfl rfl ?_
        refine Sx.skip rfl rfl rfl rfl rfl rfl ?_
        refine Sx.skip rfl rfl rfl rfl rfl rfl ?_
        refine Sx.skip rfl rfl rfl rfl rfl rfl ?_
        refine Sx.skip rfl rfl rfl rfl rfl rfl ?_
        refine Sx.skip rfl rfl rfl rfl rfl rfl ?_
        refine Sx.skip rfl rfl rfl rfl rfl rfl ?_
        refine Sx.skip rfl rfl rfl rfl rfl rfl ?_
        refine Sx.skip rfl rfl rfl rfl rfl rfl ?_
        refine Sx.skip rfl rfl rfl rfl rfl rfl ?_
        refine Sx.skip rfl rfl rfl rfl rfl rfl ?_
        refine Sx.skip rfl rfl rfl rfl rfl rfl ?_
        refine Sx.calm rfl rfl (Cm.pick_t rfl rfl) rfl ?_
        refine Sx.nil ?_
        refine At.weak [(0, _), (3, _), (4, _), (5, _), (9, _), (52, _)] ⟨rfl, rfl, rfl, rfl, rfl, rfl, trivial⟩ ?_
        refine At.go ?_
        refine Sc.cond_t rfl ?_
        refine Sc.seq ?_
        refine Sc.region ?_
        refine Sl.calm (Cm.assign rfl) rfl ?_
        refine Sl.nil ?_
        refine At.go ?_
        refine Sc.ret ?_
        refine At.block_ret ?_
        refine At.then_ret ?_
        refine At.then_ret ?_
        refine At.block_ret ?_
        refine At.then_ret ?_
        refine At.ret1 rfl rfl ?_
        exact ⟨_, rfl, by rw [decide_eq_false hbad], hF4.draws 1⟩
      ·
        refine Sx.calm rfl rfl (Cm.pick_f rfl rfl) rfl ?_
        refine Sx.calm rfl rfl (Cm.move rfl) rfl ?_
        refine Sx.forkWant rfl rfl rfl rfl (Cm.ofBool (Cm.move rfl)) rfl (fun h30 => ?_) (fun h30 => ?_)
        ·
          have hbad : ¬ mayX X := fun h => (h.1 k (by omega)).2.2.1 (of_decide_eq_true h30)
          refine Sx.calm rfl rfl (Cm.pick_f rfl rfl) rfl ?_
          refine Sx.calm rfl rfl (Cm.move rfl) rfl ?_
          refine Sx.skip rfl rfl rfl rfl rfl rfl ?_
          refine Sx.skip rfl rfl rfl rfl rfl rfl ?_
          refine Sx.skip rfl rfl rfl rfl rfl rfl ?_
          refine Sx.skip rfl rfl rfl rfl rfl rfl ?_
          refine Sx.calm rfl rfl (Cm.pick_t rfl rfl) rfl ?_
          refine Sx.calm rfl rfl (Cm.move rfl) rfl ?_
          refine Sx.skip rfl rfl rfl rfl rfl rfl ?_
          refine Sx.skip rfl rfl rfl rfl rfl rfl ?_
          refine Sx.skip rfl rfl rfl rfl rfl rfl ?_
          refine Sx.skip rfl rfl rfl rfl rfl rfl ?_
          refine Sx.skip rfl rfl rfl rfl rfl rfl ?_
          refine Sx.skip rfl rfl rfl rfl rfl rfl ?_
          refine Sx.skip rfl rfl rfl rfl rfl rfl ?_
          refine Sx.skip rfl rfl rfl rfl rfl rfl ?_
          refine Sx.skip rfl rfl rfl rfl rfl rfl ?_
          refine Sx.skip rfl rfl rfl rfl rfl rfl ?_
          refine Sx.skip rfl rfl rfl rfl rfl rfl ?_
          refine Sx.skip rfl rfl rfl rfl rfl rfl ?_
          refine Sx.skip rfl rfl rfl rfl rfl rfl ?_
          refine Sx.calm rfl rfl (Cm.pick_t rfl rfl) rfl ?_
          refine Sx.nil ?_
          refine At.weak [(0, _), (3, _), (4, _), (5, _), (9, _), (52, _)] ⟨rfl, rfl, rfl, rfl, rfl, rfl, trivial⟩ ?_
          refine At.go ?_
          refine Sc.cond_t rfl ?_
          refine Sc.seq ?_
          refine Sc.region ?_
          refine Sl.calm (Cm.assign rfl) rfl ?_
          refine Sl.nil ?_
          refine At.go ?_
          refine Sc.ret ?_
          refine At.block_ret ?_
          refine At.then_ret ?_
          refine At.then_ret ?_
          refine At.block_ret ?_
          refine At.then_ret ?_
          refine At.ret1 rfl rfl ?_
          exact ⟨_, rfl, by rw [decide_eq_false hbad], hF4.draws 1⟩
        ·
          have g3 : (0 : UInt8) ∉ (X.getD k x0).1 := fun h => h30 (decide_eq_true h)
          refine Sx.calm rfl rfl (Cm.pick_f rfl rfl) rfl ?_
          refine Sx.calm rfl rfl (Cm.move rfl) rfl ?_
          refine Sx.want rfl rfl rfl rfl (Cm.field fld70_1 rfl) rfl ?_
          refine Sx.want rfl rfl rfl rfl (Cm.ld sca32 rfl (cellF hg4 rfl)) rfl ?_
          refine Sx.want rfl rfl rfl rfl (Cm.len sl32 rfl) rfl ?_
          refine Sx.forkWant rfl rfl rfl rfl (Cm.gtr rfl rfl) rfl (fun h36 => ?_) (fun h36 => ?_)
          ·
            have hbad : ¬ mayX X := fun h => by have := (h.1 k (by omega)).2.2.2; omega
            refine Sx.calm rfl rfl (Cm.pick_f rfl rfl) rfl ?_
            refine Sx.calm rfl rfl (Cm.move rfl) rfl ?_
            refine Sx.skip rfl rfl rfl rfl rfl rfl ?_
            refine Sx.skip rfl rfl rfl rfl rfl rfl ?_
            refine Sx.skip rfl rfl rfl rfl rfl rfl ?_
            refine Sx.skip rfl rfl rfl rfl rfl rfl ?_
            refine Sx.skip rfl rfl rfl rfl rfl rfl ?_
            refine Sx.skip rfl rfl rfl rfl rfl rfl ?_
            refine Sx.skip rfl rfl rfl rfl rfl rfl ?_
            refine Sx.skip rfl rfl rfl rfl rfl rfl ?_
            refine Sx.skip rfl rfl rfl rfl rfl rfl ?_
            refine Sx.skip rfl rfl rfl rfl rfl rfl ?_
            refine Sx.skip rfl rfl rfl rfl rfl rfl ?_
            refine Sx.skip rfl rfl rfl rfl rfl rfl ?_
            refine Sx.skip rfl rfl rfl rfl rfl rfl ?_
            refine Sx.calm rfl rfl (Cm.pick_t rfl rfl) rfl ?_
            refine Sx.nil ?_
            refine At.weak [(0, _), (3, _), (4, _), (5, _), (9, _), (52, _)] ⟨rfl, rfl, rfl, rfl, rfl, rfl, trivial⟩ ?_
            refine At.go ?_
            refine Sc.cond_t rfl ?_
            refine Sc.seq ?_
            refine Sc.region ?_
            refine Sl.calm (Cm.assign rfl) rfl ?_
            refine Sl.nil ?_
            refine At.go ?_
            refine Sc.ret ?_
            refine At.block_ret ?_
            refine At.then_ret ?_
            refine At.then_ret ?_
            refine At.block_ret ?_
            refine At.then_ret ?_
            refine At.ret1 rfl rfl ?_
            exact ⟨_, rfl, by rw [decide_eq_false hbad], hF4.draws 1⟩
          ·
            refine Sx.calm rfl rfl (Cm.pick_f rfl rfl) rfl ?_
            refine Sx.calm rfl rfl (Cm.move rfl) rfl ?_
            refine Sx.want rfl rfl rfl rfl (Cm.move rfl) rfl ?_
            refine Sx.forkWant rfl rfl rfl rfl (Cm.gtr rfl rfl) rfl (fun h40 => ?_) (fun h40 => ?_)
            ·
              refine Sx.want rfl rfl rfl rfl (Cm.move rfl) rfl ?_
              refine Sx.want rfl rfl rfl rfl (Cm.move rfl) rfl ?_
              refine Sx.want rfl rfl rfl rfl (Cm.move rfl) rfl ?_
              refine Sx.want rfl rfl rfl rfl (Cm.sub64 rfl rfl (by omega)) rfl ?_
              obtain ⟨k, rfl⟩ : ∃ q, k = q + 1 := ⟨k - 1, by omega⟩
              obtain ⟨pa, pc2, prow, pxv, pnl⟩ := (hv.grow hF4).at (i := k) (z := ((k + 1 : Nat) : Int) - 1) (by omega) (by omega)
              refine Sx.want rfl rfl rfl rfl (Cm.indexAddr sl33 rfl rfl hv.non (by omega)) rfl ?_
              refine Sx.want rfl rfl rfl rfl (Cm.field fld70_0 rfl) rfl ?_
              refine Sx.want rfl rfl rfl rfl (Cm.ld sca9 rfl (prow 0 _ rfl)) rfl ?_
              refine Sx.want rfl rfl rfl rfl (Cm.field fld70_0 rfl) rfl ?_
              refine Sx.want rfl rfl rfl rfl (Cm.ld sca9 rfl (cellF hg4 rfl)) rfl ?_
              refine Sx.forkWant rfl rfl rfl rfl (Cm.ofBool (Cm.geqBs rfl rfl)) rfl (fun h50 => ?_) (fun h50 => ?_)
              ·
                have hbad : ¬ mayX X := fun h => by have : Op.bytesLess (X.getD k x0).1 (X.getD (k + 1) x0).1 = true := (h.1 (k + 1) (by omega)).1; rw [this] at h50; cases h50
                refine Sx.want rfl rfl rfl rfl (Cm.pick_t rfl rfl) rfl ?_
                refine Sx.calm rfl rfl (Cm.pick_f rfl rfl) rfl ?_
                refine Sx.nil ?_
                refine At.weak [(0, _), (3, _), (4, _), (5, _), (9, _), (52, _)] ⟨rfl, rfl, rfl, rfl, rfl, rfl, trivial⟩ ?_
                refine At.go ?_
                refine Sc.cond_t rfl ?_
                refine Sc.seq ?_
                refine Sc.region ?_
                refine Sl.calm (Cm.assign rfl) rfl ?_
                refine Sl.nil ?_
                refine At.go ?_
                refine Sc.ret ?_
                refine At.block_ret ?_
                refine At.then_ret ?_
                refine At.then_ret ?_
                refine At.block_ret ?_
                refine At.then_ret ?_
                refine At.ret1 rfl rfl ?_
                exact ⟨_, rfl, by rw [decide_eq_false hbad], hF4.draws 1⟩
              ·
                have g1 : Op.bytesLess (X.getD k x0).1 (X.getD (k + 1) x0).1 = true := by revert h50; cases Op.bytesLess (X.getD k x0).1 (X.getD (k + 1) x0).1 <;> simp
                refine Sx.want rfl rfl rfl rfl (Cm.pick_t rfl rfl) rfl ?_
                refine Sx.calm rfl rfl (Cm.pick_f rfl rfl) rfl ?_
                refine Sx.nil ?_
                refine At.weak [(0, _), (3, _), (4, _), (5, _), (9, _), (52, _)] ⟨rfl, rfl, rfl, rfl, rfl, rfl, trivial⟩ ?_
                refine At.go ?_
                refine Sc.cond_f rfl ?_
                refine Sc.skip ?_
                refine At.block_normal ?_
                refine At.go ?_
                refine Sc.region ?_
                refine Sl.calm (Cm.move rfl) rfl ?_
                refine Sl.calm (Cm.add64 rfl rfl (by omega)) rfl ?_
                refine Sl.calm (Cm.assign rfl) rfl ?_
                refine Sl.nil ?_
                first
                  | (refine At.again (k + 1 + 1) ⟨rfl, rfl, trivial⟩ ?_ (by show X.length - (k + 1 + 1) < X.length - (k + 1); omega)
                     refine ⟨by omega, fun i hi => ?_, hF4.draws 1⟩
                     by_cases hik : i = k + 1
                     · subst hik; exact ⟨g1, by omega, g3, by omega⟩
                     · exact hgood i (by omega))
                  | (refine At.again (k + 1) ⟨rfl, rfl, trivial⟩ ?_ (by show X.length - (k + 1) < X.length - k; omega)
                     refine ⟨by omega, fun i hi => ?_, hF4.draws 1⟩
                     by_cases hik : i = k
                     · subst hik; have hi0 : i = 0 := by omega
                       subst hi0; exact ⟨(less_nil _).2 (by intro e; rw [e] at h22; simp at h22), by omega, g3, by omega⟩
                     · exact hgood i (by omega))
            ·
              refine Sx.want rfl rfl rfl rfl (Cm.move rfl) rfl ?_
              refine Sx.skip rfl rfl rfl rfl rfl rfl ?_
              refine Sx.skip rfl rfl rfl rfl rfl rfl ?_
              refine Sx.skip rfl rfl rfl rfl rfl rfl ?_
              refine Sx.skip rfl rfl rfl rfl rfl rfl ?_
              refine Sx.skip rfl rfl rfl rfl rfl rfl ?_
              refine Sx.skip rfl rfl rfl rfl rfl rfl ?_
              refine Sx.skip rfl rfl rfl rfl rfl rfl ?_
              refine Sx.skip rfl rfl rfl rfl rfl rfl ?_
              refine Sx.skip rfl rfl rfl rfl rfl rfl ?_
              refine Sx.want rfl rfl rfl rfl (Cm.pick_f rfl rfl) rfl ?_
              refine Sx.calm rfl rfl (Cm.pick_f rfl rfl) rfl ?_
              refine Sx.nil ?_
              refine At.weak [(0, _), (3, _), (4, _), (5, _), (9, _), (52, _)] ⟨rfl, rfl, rfl, rfl, rfl, rfl, trivial⟩ ?_
              refine At.go ?_
              refine Sc.cond_f rfl ?_
              refine Sc.skip ?_
              refine At.block_normal ?_
              refine At.go ?_
              refine Sc.region ?_
              refine Sl.calm (Cm.move rfl) rfl ?_
              refine Sl.calm (Cm.add64 rfl rfl (by omega)) rfl ?_
              refine Sl.calm (Cm.assign rfl) rfl ?_
              refine Sl.nil ?_
              first
                | (refine At.again (k + 1 + 1) ⟨rfl, rfl, trivial⟩ ?_ (by show X.length - (k + 1 + 1) < X.length - (k + 1); omega)
                   refine ⟨by omega, fun i hi => ?_, hF4.draws 1⟩
                   by_cases hik : i = k + 1
                   · subst hik; exact ⟨g1, by omega, g3, by omega⟩
                   · exact hgood i (by omega))
                | (refine At.again (k + 1) ⟨rfl, rfl, trivial⟩ ?_ (by show X.length - (k + 1) < X.length - k; omega)
                   refine ⟨by omega, fun i hi => ?_, hF4.draws 1⟩
                   by_cases hik : i = k
                   · subst hik; have hi0 : i = 0 := by omega
                     subst hi0; exact ⟨(less_nil _).2 (by intro e; rw [e] at h22; simp at h22), by omega, g3, by omega⟩
                   · exact hgood i (by omega))
  ·
    refine Sl.nil ?_
    refine At.weak [(0, _), (3, _), (9, _)] ⟨rfl, rfl, rfl, trivial⟩ ?_
    refine At.go ?_
    refine Sc.cond_f rfl ?_
    refine Sc.exit ?_
    refine At.then_exit ?_
    refine At.then_exit ?_
    refine At.block_hit ?_
    refine At.go ?_
    refine Sc.seq ?_
    refine Sc.region ?_
    refine Sl.calm (Cm.move rfl) rfl ?_
    refine Sl.calm (Cm.len sl33 rfl) rfl ?_
    refine Sl.calm (Cm.leq rfl rfl) rfl ?_
    refine Sl.calm (Cm.assign rfl) rfl ?_
    refine Sl.nil ?_
    refine At.weak [(0, _), (2, _), (3, _), (9, _)] ⟨rfl, rfl, rfl, rfl, trivial⟩ ?_
    refine At.go ?_
    refine Sc.ret ?_
    refine At.ret1 rfl rfl ?_
    refine ⟨_, rfl, ?_, hF2⟩
    have hk2 : k = X.length := by omega
    subst hk2
    congr 1
    exact decide_eq_decide.2 ⟨fun h => ⟨hgood, by omega⟩, fun h => by have := h.2; omega⟩
end Go.Proofs.Ytpamandneifemaa
