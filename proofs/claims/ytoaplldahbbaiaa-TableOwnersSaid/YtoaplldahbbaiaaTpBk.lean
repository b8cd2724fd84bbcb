/- table: MayXattrs, PutXattrs, the program's and the reference's. No condition beyond the bounds that each states. -/
import Derived.Test.YtoaplldahbbaiaaTpAk
import Derived.Test.YtoaplldahbbaiaaXbk
namespace Go.Proofs.Ytoaplldahbbaiaa
open Go Go.RowKit
set_option linter.unusedVariables false

set_option maxHeartbeats 1000000 in
theorem mayX_ok (xo : Option Addr) (xc : Nat) (X : List Xa) (W : World) (hv : XaV W.heap xo xc X) :
    Calls Try.prog 19 [.slice xo X.length xc].toArray W (Ret fun v w' => v = .bool (decide (mayX X)) ∧ Foot nob W w') := by
  have hl := hv.len63
  refine calls_of_sc 40 [(0, _)] Try.func19 rfl rfl rfl (enter_slots ⟨rfl, trivial⟩) ?_
  refine Sc.seq ?_
  refine Sc.region ?_
  refine Sl.calm (Cm.assign rfl) rfl ?_
  refine Sl.nil ?_
  refine At.go ?_
  refine Sc.seq ?_
  refine Sc.region ?_
  refine Sl.calm (Cm.assign rfl) rfl ?_
  refine Sl.nil ?_
  refine At.go ?_
  refine Sc.seq ?_
  refine Sc.seq ?_
  refine Sc.region ?_
  refine Sl.calm (Cm.move rfl) rfl ?_
  refine Sl.calm (Cm.len sl23 rfl) rfl ?_
  refine Sl.calm (Cm.move rfl) rfl ?_
  refine Sl.nil ?_
  refine At.go ?_
  refine Sc.block ?_
  refine Sc.loop (β := Nat) (fun k => [(0, .slice xo X.length xc), (3, .string (bs (prevX X k))), (6, .slice xo X.length xc), (7, .int .i64 X.length), (8, .int .i64 k)]) (fun k w => k ≤ X.length ∧ (∀ i, i < k → goodX X i) ∧ Foot nob W w) (fun k => X.length - k) 0 ⟨rfl, rfl, rfl, rfl, rfl, trivial⟩ ⟨Nat.zero_le _, by intro i hi; omega, Foot.refl _ _⟩ ?_
  rintro k w2 ⟨hk, hgood, hF2⟩
  refine Sc.seq ?_
  refine Sc.region ?_
  refine Sl.fork (Cm.lss rfl rfl) rfl (fun h9 => ?_) (fun h9 => ?_)
  ·
    refine Sl.nil ?_
    refine At.go ?_
    refine Sc.seq ?_
    refine Sc.cond_t rfl ?_
    refine Sc.skip ?_
    refine At.go ?_
    refine Sc.seq ?_
    refine Sc.block ?_
    refine Sc.seq ?_
    refine Sc.region ?_
    obtain ⟨xa, xc2, hrow, hxv, hnl⟩ := (hv.grow hF2).at (i := k) rfl (by omega)
    refine Sl.calm (Cm.indexAddr sl23 rfl rfl hv.non (by omega)) rfl ?_
    refine Sl.calm (Cm.ldM (cs := [.string (bs (X.getD k x0).1), .slice xa (X.getD k x0).2.length xc2]) agg82 rfl hrow) rfl ?_
    refine Sl.allocC zc82 rfl ?_
    intro w3 hg3 hs3 hf3
    refine Sl.storeAll (vs := [.string (bs (X.getD k x0).1), .slice xa (X.getD k x0).2.length xc2]) agg82 rfl rfl (by simp [Value.oneCell']) hg3 rfl ?_
    intro w4 hg4 hs4 hf4
    have hF4 : Foot nob W w4 := hF2.trans (hf3.trans_to hf4 (fun k hk => .inr (by omega)))
    refine Sl.nil ?_
    refine At.weak [(0, _), (3, _), (5, _), (6, _), (7, _), (8, _), (9, _)] ⟨rfl, rfl, rfl, rfl, rfl, rfl, rfl, trivial⟩ ?_
    refine At.go ?_
    refine Sc.seq ?_
    refine Sc.seq ?_
    refine Sc.region ?_
    refine Sl.calm (Cm.field fld82_0 rfl) rfl ?_
    refine Sl.calm (Cm.ld sca9 rfl (cellF hg4 rfl)) rfl ?_
    refine Sl.calm (Cm.move rfl) rfl ?_
    refine Sl.fork (Cm.ofBool (Cm.leqBs rfl rfl)) rfl (fun h15 => ?_) (fun h15 => ?_)
    ·
      have hbad : ¬ mayX X := fun h => by have := (h.1 k (by omega)).1; rw [less_not] at h15; rw [this] at h15; cases h15
      refine Sl.calm (Cm.move rfl) rfl ?_
      refine Sl.skip rfl rfl rfl rfl ?_
      refine Sl.skip rfl rfl rfl rfl ?_
      refine Sl.skip rfl rfl rfl rfl ?_
      refine Sl.skip rfl rfl rfl rfl ?_
      refine Sl.calm (Cm.pick_t rfl rfl) rfl ?_
      refine Sl.calm (Cm.move rfl) rfl ?_
      refine Sl.skip rfl rfl rfl rfl ?_
      refine Sl.skip rfl rfl rfl rfl ?_
      refine Sl.skip rfl rfl rfl rfl ?_
      refine Sl.skip rfl rfl rfl rfl ?_
      refine Sl.calm (Cm.pick_t rfl rfl) rfl ?_
      refine Sl.calm (Cm.move rfl) rfl ?_
      refine Sl.skip rfl rfl rfl rfl ?_
      refine Sl.skip rfl rfl rfl rfl ?_
      refine Sl.skip rfl rfl rfl rfl ?_
      refine Sl.skip rfl rfl rfl rfl ?_
      refine Sl.calm (Cm.pick_t rfl rfl) rfl ?_
      refine Sl.nil ?_
      refine At.weak [(0, _), (3, _), (5, _), (6, _), (7, _), (8, _), (9, _), (33, _)] ⟨rfl, rfl, rfl, rfl, rfl, rfl, rfl, rfl, trivial⟩ ?_
      refine At.go ?_
      refine Sc.cond_t rfl ?_
      refine Sc.seq ?_
      refine Sc.region ?_
      refine Sl.calm (Cm.assign rfl) rfl ?_
      refine Sl.nil ?_
      refine At.go ?_
      refine Sc.ret ?_
      refine At.then_ret ?_
      refine At.block_ret ?_
      refine At.then_ret ?_
      refine At.then_ret ?_
      refine At.block_ret ?_
      refine At.then_ret ?_
      refine At.ret1 rfl rfl ?_
      exact ⟨_, rfl, by rw [decide_eq_false hbad], hF4⟩
    ·
      have g1 : Op.bytesLess (prevX X k) (X.getD k x0).1 = true := by rw [less_not] at h15; revert h15; cases Op.bytesLess (prevX X k) (X.getD k x0).1 <;> simp
      refine Sl.calm (Cm.move rfl) rfl ?_
      refine Sl.want rfl rfl (Cm.field fld82_0 rfl) rfl ?_
      refine Sl.want rfl rfl (Cm.ld sca9 rfl (cellF hg4 rfl)) rfl ?_
      refine Sl.want rfl rfl (Cm.lenBs ty9 rfl) rfl ?_
      refine Sl.forkWant rfl rfl (Cm.gtr rfl rfl) rfl (fun h20 => ?_) (fun h20 => ?_)
      ·
        have hbad : ¬ mayX X := fun h => by have := (h.1 k (by omega)).2.1; omega
        refine Sl.calm (Cm.pick_f rfl rfl) rfl ?_
        refine Sl.calm (Cm.move rfl) rfl ?_
        refine Sl.skip rfl rfl rfl rfl ?_
        refine Sl.skip rfl rfl rfl rfl ?_
        refine Sl.skip rfl rfl rfl rfl ?_
        refine Sl.skip rfl rfl rfl rfl ?_
        refine Sl.calm (Cm.pick_t rfl rfl) rfl ?_
        refine Sl.calm (Cm.move rfl) rfl ?_
        refine Sl.skip rfl rfl rfl rfl ?_
        refine Sl.skip rfl rfl rfl rfl ?_
        refine Sl.skip rfl rfl rfl rfl ?_
        refine Sl.skip rfl rfl rfl rfl ?_
        refine Sl.calm (Cm.pick_t rfl rfl) rfl ?_
        refine Sl.nil ?_
        refine At.weak [(0, _), (3, _), (5, _), (6, _), (7, _), (8, _), (9, _), (33, _)] ⟨rfl, rfl, rfl, rfl, rfl, rfl, rfl, rfl, trivial⟩ ?_
        refine At.go ?_
        refine Sc.cond_t rfl ?_
        refine Sc.seq ?_
        refine Sc.region ?_
        refine Sl.calm (Cm.assign rfl) rfl ?_
        refine Sl.nil ?_
        refine At.go ?_
        refine Sc.ret ?_
        refine At.then_ret ?_
        refine At.block_ret ?_
        refine At.then_ret ?_
        refine At.then_ret ?_
        refine At.block_ret ?_
        refine At.then_ret ?_
        refine At.ret1 rfl rfl ?_
        exact ⟨_, rfl, by rw [decide_eq_false hbad], hF4⟩
      ·
        refine Sl.calm (Cm.pick_f rfl rfl) rfl ?_
        refine Sl.calm (Cm.move rfl) rfl ?_
        refine Sl.want rfl rfl (Cm.field fld82_0 rfl) rfl ?_
        refine Sl.want rfl rfl (Cm.ld sca9 rfl (cellF hg4 rfl)) rfl ?_
        refine Sl.callWant rfl rfl fn51 rfl (ixb_ok _ 0 w4) rfl ?_
        rintro _ w5 ⟨rfl, hw5⟩
        subst w5
        refine Sl.forkWant rfl rfl (Cm.geq rfl rfl) rfl (fun h26 => ?_) (fun h26 => ?_)
        ·
          have hbad : ¬ mayX X := fun h => (h.1 k (by omega)).2.2.1 (nul_pos h26)
          refine Sl.calm (Cm.pick_f rfl rfl) rfl ?_
          refine Sl.calm (Cm.move rfl) rfl ?_
          refine Sl.skip rfl rfl rfl rfl ?_
          refine Sl.skip rfl rfl rfl rfl ?_
          refine Sl.skip rfl rfl rfl rfl ?_
          refine Sl.skip rfl rfl rfl rfl ?_
          refine Sl.calm (Cm.pick_t rfl rfl) rfl ?_
          refine Sl.nil ?_
          refine At.weak [(0, _), (3, _), (5, _), (6, _), (7, _), (8, _), (9, _), (33, _)] ⟨rfl, rfl, rfl, rfl, rfl, rfl, rfl, rfl, trivial⟩ ?_
          refine At.go ?_
          refine Sc.cond_t rfl ?_
          refine Sc.seq ?_
          refine Sc.region ?_
          refine Sl.calm (Cm.assign rfl) rfl ?_
          refine Sl.nil ?_
          refine At.go ?_
          refine Sc.ret ?_
          refine At.then_ret ?_
          refine At.block_ret ?_
          refine At.then_ret ?_
          refine At.then_ret ?_
          refine At.block_ret ?_
          refine At.then_ret ?_
          refine At.ret1 rfl rfl ?_
          exact ⟨_, rfl, by rw [decide_eq_false hbad], hF4⟩
        ·
          have g3 := nul_neg (Int.not_le.1 h26)
          refine Sl.calm (Cm.pick_f rfl rfl) rfl ?_
          refine Sl.calm (Cm.move rfl) rfl ?_
          refine Sl.want rfl rfl (Cm.field fld82_1 rfl) rfl ?_
          refine Sl.want rfl rfl (Cm.ld sca25 rfl (cellF hg4 rfl)) rfl ?_
          refine Sl.want rfl rfl (Cm.len sl25 rfl) rfl ?_
          refine Sl.forkWant rfl rfl (Cm.gtr rfl rfl) rfl (fun h32 => ?_) (fun h32 => ?_)
          ·
            have hbad : ¬ mayX X := fun h => by have := (h.1 k (by omega)).2.2.2; omega
            refine Sl.calm (Cm.pick_f rfl rfl) rfl ?_
            refine Sl.nil ?_
            refine At.weak [(0, _), (3, _), (5, _), (6, _), (7, _), (8, _), (9, _), (33, _)] ⟨rfl, rfl, rfl, rfl, rfl, rfl, rfl, rfl, trivial⟩ ?_
            refine At.go ?_
            refine Sc.cond_t rfl ?_
            refine Sc.seq ?_
            refine Sc.region ?_
            refine Sl.calm (Cm.assign rfl) rfl ?_
            refine Sl.nil ?_
            refine At.go ?_
            refine Sc.ret ?_
            refine At.then_ret ?_
            refine At.block_ret ?_
            refine At.then_ret ?_
            refine At.then_ret ?_
            refine At.block_ret ?_
            refine At.then_ret ?_
            refine At.ret1 rfl rfl ?_
            exact ⟨_, rfl, by rw [decide_eq_false hbad], hF4⟩
          ·
            refine Sl.calm (Cm.pick_f rfl rfl) rfl ?_
            refine Sl.nil ?_
            refine At.weak [(0, _), (3, _), (5, _), (6, _), (7, _), (8, _), (9, _), (33, _)] ⟨rfl, rfl, rfl, rfl, rfl, rfl, rfl, rfl, trivial⟩ ?_
            refine At.go ?_
            refine Sc.cond_f rfl ?_
            refine Sc.skip ?_
            refine At.go ?_
            refine Sc.region ?_
            refine Sl.calm (Cm.field fld82_0 rfl) rfl ?_
            refine Sl.calm (Cm.ld sca9 rfl (cellF hg4 rfl)) rfl ?_
            refine Sl.calm (Cm.assign rfl) rfl ?_
            refine Sl.nil ?_
            refine At.block_normal ?_
            refine At.weak [(0, _), (3, _), (5, _), (6, _), (7, _), (8, _), (9, _), (33, _)] ⟨rfl, rfl, rfl, rfl, rfl, rfl, rfl, rfl, trivial⟩ ?_
            refine At.go ?_
            refine Sc.region ?_
            refine Sl.calm (Cm.add64 rfl rfl (by omega)) rfl ?_
            refine Sl.calm (Cm.move rfl) rfl ?_
            refine Sl.nil ?_
            refine At.again (k + 1) ⟨rfl, rfl, rfl, rfl, rfl, trivial⟩ ?_ (by show X.length - (k + 1) < X.length - k; omega)
            refine ⟨by omega, fun i hi => ?_, hF4⟩
            by_cases hik : i = k
            · subst hik; exact ⟨g1, by omega, g3, by omega⟩
            · exact hgood i (by omega)
  ·
    refine Sl.nil ?_
    refine At.go ?_
    refine Sc.seq ?_
    refine Sc.cond_f rfl ?_
    refine Sc.exit ?_
    refine At.then_exit ?_
    refine At.then_exit ?_
    refine At.block_hit ?_
    refine At.go ?_
    refine Sc.seq ?_
    refine Sc.region ?_
    refine Sl.calm (Cm.move rfl) rfl ?_
    refine Sl.calm (Cm.len sl23 rfl) rfl ?_
    refine Sl.calm (Cm.leq rfl rfl) rfl ?_
    refine Sl.calm (Cm.assign rfl) rfl ?_
    refine Sl.nil ?_
    refine At.weak [(0, _), (2, _), (3, _), (6, _), (7, _), (8, _), (9, _)] ⟨rfl, rfl, rfl, rfl, rfl, rfl, rfl, trivial⟩ ?_
    refine At.go ?_
    refine Sc.ret ?_
    refine At.ret1 rfl rfl ?_
    refine ⟨_, rfl, ?_, hF2⟩
    have hk2 : k = X.length := by omega
    subst hk2
    congr 1
    exact decide_eq_decide.2 ⟨fun h => ⟨hgood, by omega⟩, fun h => by have := h.2; omega⟩

end Go.Proofs.Ytoaplldahbbaiaa
