/- tree: the program's may; IndexFunc over nodes. No condition beyond the bounds that each states. -/
import Derived.Test.YtpnfjfbfgaiolaaTrFk
import Derived.Test.YtpnfjfbfgaiolaaXbk
import Derived.Test.YtpnfjfbfgaiolaaBtk
namespace Go.Proofs.Ytpnfjfbfgaiolaa
open Go Go.RowKit
set_option linter.unusedVariables false

theorem within_ok (x a b : Int) (W : World) : Calls Try.prog 57 [.int .i64 x, .int .i64 a, .int .i64 b].toArray W (Ret fun v w' => v = .bool (decide (a ≤ x ∧ x ≤ b)) ∧ w' = W) := by
  refine calls_of_sc 15 [(0, _), (1, _), (2, _)] Try.func57 rfl rfl rfl (enter_slots ⟨rfl, rfl, rfl, trivial⟩) ?_
  refine Sc.seq ?_
  refine Sc.region ?_
  refine Sl.calm (Cm.assign rfl) rfl ?_
  refine Sl.nil ?_
  refine At.go ?_
  refine Sc.seq ?_
  refine Sc.region ?_
  refine Sl.calm (Cm.move rfl) rfl ?_
  refine Sl.calm (Cm.move rfl) rfl ?_
  refine Sl.fork (Cm.leq rfl rfl) rfl (fun h9 => ?_) (fun h9 => ?_)
  ·
    refine Sl.calm (Cm.move rfl) rfl ?_
    refine Sl.want rfl rfl (Cm.move rfl) rfl ?_
    refine Sl.want rfl rfl (Cm.move rfl) rfl ?_
    refine Sl.forkWant rfl rfl (Cm.leq rfl rfl) rfl (fun h13 => ?_) (fun h13 => ?_)
    ·
      refine Sl.calm (Cm.pick_t rfl rfl) rfl ?_
      refine Sl.calm (Cm.assign rfl) rfl ?_
      refine Sl.nil ?_
      refine At.weak [(0, _), (1, _), (2, _), (6, _)] ⟨rfl, rfl, rfl, rfl, trivial⟩ ?_
      refine At.go ?_
      refine Sc.ret ?_
      refine At.ret1 rfl rfl ?_
      first
        | exact ⟨_, rfl, by rw [decide_eq_true (show a ≤ x ∧ x ≤ b from ⟨h9, h13⟩)], rfl⟩
        | exact ⟨_, rfl, by rw [decide_eq_false (show ¬ (a ≤ x ∧ x ≤ b) from fun h => h13 h.2)], rfl⟩
        | exact ⟨_, rfl, by rw [decide_eq_false (show ¬ (a ≤ x ∧ x ≤ b) from fun h => h9 h.1)], rfl⟩
    ·
      refine Sl.calm (Cm.pick_t rfl rfl) rfl ?_
      refine Sl.calm (Cm.assign rfl) rfl ?_
      refine Sl.nil ?_
      refine At.weak [(0, _), (1, _), (2, _), (6, _)] ⟨rfl, rfl, rfl, rfl, trivial⟩ ?_
      refine At.go ?_
      refine Sc.ret ?_
      refine At.ret1 rfl rfl ?_
      first
        | exact ⟨_, rfl, by rw [decide_eq_true (show a ≤ x ∧ x ≤ b from ⟨h9, h13⟩)], rfl⟩
        | exact ⟨_, rfl, by rw [decide_eq_false (show ¬ (a ≤ x ∧ x ≤ b) from fun h => h13 h.2)], rfl⟩
        | exact ⟨_, rfl, by rw [decide_eq_false (show ¬ (a ≤ x ∧ x ≤ b) from fun h => h9 h.1)], rfl⟩
  ·
    refine Sl.calm (Cm.move rfl) rfl ?_
    refine Sl.skip rfl rfl rfl rfl ?_
    refine Sl.skip rfl rfl rfl rfl ?_
    refine Sl.skip rfl rfl rfl rfl ?_
    refine Sl.calm (Cm.pick_f rfl rfl) rfl ?_
    refine Sl.calm (Cm.assign rfl) rfl ?_
    refine Sl.nil ?_
    refine At.weak [(0, _), (1, _), (2, _), (6, _)] ⟨rfl, rfl, rfl, rfl, trivial⟩ ?_
    refine At.go ?_
    refine Sc.ret ?_
    refine At.ret1 rfl rfl ?_
    first
      | exact ⟨_, rfl, by rw [decide_eq_true (show a ≤ x ∧ x ≤ b from ⟨h9, h13⟩)], rfl⟩
      | exact ⟨_, rfl, by rw [decide_eq_false (show ¬ (a ≤ x ∧ x ≤ b) from fun h => h13 h.2)], rfl⟩
      | exact ⟨_, rfl, by rw [decide_eq_false (show ¬ (a ≤ x ∧ x ≤ b) from fun h => h9 h.1)], rfl⟩
def plainP (s : List UInt8) (m : Int) : Prop := (1 ≤ (s.length : Int) ∧ (s.length : Int) ≤ m) ∧ (0 : UInt8) ∉ s
instance (s : List UInt8) (m : Int) : Decidable (plainP s m) := by unfold plainP; exact inferInstance
theorem plain_ok (s : List UInt8) (m : Int) (W : World) : Calls Try.prog 56 [.string (bs s), .int .i64 m].toArray W (Ret fun v w' => v = .bool (decide (plainP s m)) ∧ w' = W) := by
  refine calls_of_sc 14 [(0, _), (1, _)] Try.func56 rfl rfl rfl (enter_slots ⟨rfl, rfl, trivial⟩) ?_
  refine Sc.seq ?_
  refine Sc.region ?_
  refine Sl.calm (Cm.assign rfl) rfl ?_
  refine Sl.nil ?_
  refine At.go ?_
  refine Sc.seq ?_
  refine Sc.region ?_
  refine Sl.calm (Cm.move rfl) rfl ?_
  refine Sl.calm (Cm.lenBs ty9 rfl) rfl ?_
  refine Sl.calm (Cm.move rfl) rfl ?_
  refine Sl.call fn57 rfl (within_ok _ 1 m W) rfl ?_
  rintro _ w1 ⟨rfl, hw1⟩
  subst w1
  by_cases h8 : 1 ≤ (s.length : Int) ∧ (s.length : Int) ≤ m
  ·
    rw [decide_eq_true h8]
    refine Sl.calm (Cm.move rfl) rfl ?_
    refine Sl.want rfl rfl (Cm.move rfl) rfl ?_
    refine Sl.callWant rfl rfl fn71 rfl (ixb_ok s 0 W) rfl ?_
    rintro _ w1 ⟨rfl, hw1⟩
    subst w1
    refine Sl.forkWant rfl rfl (Cm.lss rfl rfl) rfl (fun h12 => ?_) (fun h12 => ?_)
    ·
      refine Sl.calm (Cm.pick_t rfl rfl) rfl ?_
      refine Sl.calm (Cm.assign rfl) rfl ?_
      refine Sl.nil ?_
      refine At.weak [(0, _), (1, _), (4, _)] ⟨rfl, rfl, rfl, trivial⟩ ?_
      refine At.go ?_
      refine Sc.ret ?_
      refine At.ret1 rfl rfl ?_
      first
        | exact ⟨_, rfl, by rw [decide_eq_true (show plainP s m from ⟨h8, nul_neg h12⟩)], rfl⟩
        | exact ⟨_, rfl, by rw [decide_eq_false (show ¬ plainP s m from fun h => h.2 (nul_pos (Int.not_lt.1 h12)))], rfl⟩
        | exact ⟨_, rfl, by rw [decide_eq_false (show ¬ plainP s m from fun h => h8 h.1)], rfl⟩
    ·
      refine Sl.calm (Cm.pick_t rfl rfl) rfl ?_
      refine Sl.calm (Cm.assign rfl) rfl ?_
      refine Sl.nil ?_
      refine At.weak [(0, _), (1, _), (4, _)] ⟨rfl, rfl, rfl, trivial⟩ ?_
      refine At.go ?_
      refine Sc.ret ?_
      refine At.ret1 rfl rfl ?_
      first
        | exact ⟨_, rfl, by rw [decide_eq_true (show plainP s m from ⟨h8, nul_neg h12⟩)], rfl⟩
        | exact ⟨_, rfl, by rw [decide_eq_false (show ¬ plainP s m from fun h => h.2 (nul_pos (Int.not_lt.1 h12)))], rfl⟩
        | exact ⟨_, rfl, by rw [decide_eq_false (show ¬ plainP s m from fun h => h8 h.1)], rfl⟩
  ·
    rw [decide_eq_false h8]
    refine Sl.calm (Cm.move rfl) rfl ?_
    refine Sl.skip rfl rfl rfl rfl ?_
    refine Sl.skip rfl rfl rfl rfl ?_
    refine Sl.skip rfl rfl rfl rfl ?_
    refine Sl.calm (Cm.pick_f rfl rfl) rfl ?_
    refine Sl.calm (Cm.assign rfl) rfl ?_
    refine Sl.nil ?_
    refine At.weak [(0, _), (1, _), (4, _)] ⟨rfl, rfl, rfl, trivial⟩ ?_
    refine At.go ?_
    refine Sc.ret ?_
    refine At.ret1 rfl rfl ?_
    first
      | exact ⟨_, rfl, by rw [decide_eq_true (show plainP s m from ⟨h8, nul_neg h12⟩)], rfl⟩
      | exact ⟨_, rfl, by rw [decide_eq_false (show ¬ plainP s m from fun h => h.2 (nul_pos (Int.not_lt.1 h12)))], rfl⟩
      | exact ⟨_, rfl, by rw [decide_eq_false (show ¬ plainP s m from fun h => h8 h.1)], rfl⟩
set_option maxHeartbeats 1000000 in
theorem mayX_ok (xo : Option Addr) (xc : Nat) (X : List Xa) (W : World) (hv : XaV W.heap xo xc X) :
    Calls Try.prog 58 [.slice xo X.length xc].toArray W (Ret fun v w' => v = .bool (decide (mayX X)) ∧ Foot nob W w') := by
  have hl := hv.len63
  refine calls_of_sc 34 [(0, _)] Try.func58 rfl rfl rfl (enter_slots ⟨rfl, trivial⟩) ?_
  refine Sc.seq ?_
  refine Sc.region ?_
  refine Sl.calm (Cm.assign rfl) rfl ?_
  refine Sl.nil ?_
  refine At.go ?_
  refine Sc.seq ?_
  refine Sc.region ?_
  refine Sl.calm (Cm.assign rfl) rfl ?_
  refine Sl.nil ?_
  refine At.go ?_
  refine Sc.seq ?_
  refine Sc.seq ?_
  refine Sc.region ?_
  refine Sl.calm (Cm.move rfl) rfl ?_
  refine Sl.calm (Cm.len sl32 rfl) rfl ?_
  refine Sl.calm (Cm.move rfl) rfl ?_
  refine Sl.nil ?_
  refine At.go ?_
  refine Sc.block ?_
  refine Sc.loop (β := Nat) (fun k => [(0, .slice xo X.length xc), (3, .string (bs (prevX X k))), (6, .slice xo X.length xc), (7, .int .i64 X.length), (8, .int .i64 k)]) (fun k w => k ≤ X.length ∧ (∀ i, i < k → goodX X i) ∧ Foot nob W w) (fun k => X.length - k) 0 ⟨rfl, rfl, rfl, rfl, rfl, trivial⟩ ⟨Nat.zero_le _, by intro i hi; omega, Foot.refl _ _⟩ ?_
  rintro k w2 ⟨hk, hgood, hF2⟩
  refine Sc.seq ?_
  refine Sc.region ?_
  refine Sl.fork (Cm.lss rfl rfl) rfl (fun h9 => ?_) (fun h9 => ?_)
  ·
    refine Sl.nil ?_
    refine At.go ?_
    refine Sc.seq ?_
    refine Sc.cond_t rfl ?_
    refine Sc.skip ?_
    refine At.go ?_
    refine Sc.seq ?_
    refine Sc.block ?_
    refine Sc.seq ?_
    refine Sc.region ?_
    obtain ⟨xa, xc2, hrow, hxv, hnl⟩ := (hv.grow hF2).at (i := k) rfl (by omega)
    refine Sl.calm (Cm.indexAddr sl32 rfl rfl hv.non (by omega)) rfl ?_
    refine Sl.calm (Cm.ldM (cs := [.string (bs (X.getD k x0).1), .slice xa (X.getD k x0).2.length xc2]) agg54 rfl hrow) rfl ?_
    refine Sl.allocC zc54 rfl ?_
    intro w3 hg3 hs3 hf3
    refine Sl.storeAll (vs := [.string (bs (X.getD k x0).1), .slice xa (X.getD k x0).2.length xc2]) agg54 rfl rfl (by simp [Value.oneCell']) hg3 rfl ?_
    intro w4 hg4 hs4 hf4
    have hF4 : Foot nob W w4 := hF2.trans (hf3.trans_to hf4 (fun k hk => .inr (by omega)))
    refine Sl.nil ?_
    refine At.weak [(0, _), (3, _), (5, _), (6, _), (7, _), (8, _), (9, _)] ⟨rfl, rfl, rfl, rfl, rfl, rfl, rfl, trivial⟩ ?_
    refine At.go ?_
    refine Sc.seq ?_
    refine Sc.seq ?_
    refine Sc.region ?_
    refine Sl.calm (Cm.field fld54_0 rfl) rfl ?_
    refine Sl.calm (Cm.ld sca9 rfl (cellF hg4 rfl)) rfl ?_
    refine Sl.call fn56 rfl (plain_ok _ 40 w4) rfl ?_
    rintro _ w5 ⟨rfl, hw5⟩
    subst w5
    by_cases h14 : plainP (X.getD k x0).1 40
    ·
      rw [decide_eq_true h14]
      refine Sl.calm (Cm.not rfl) rfl ?_
      refine Sl.calm (Cm.move rfl) rfl ?_
      refine Sl.want rfl rfl (Cm.field fld54_0 rfl) rfl ?_
      refine Sl.want rfl rfl (Cm.ld sca9 rfl (cellF hg4 rfl)) rfl ?_
      refine Sl.want rfl rfl (Cm.move rfl) rfl ?_
      refine Sl.forkWant rfl rfl (Cm.ofBool (Cm.leqBs (a := (X.getD k x0).1) (b := prevX X k) rfl rfl)) rfl (fun h20 => ?_) (fun h20 => ?_)
      ·
        rw [less_not] at h20
        have hbad : ¬ mayX X := fun h => by rw [(h.1 k (by omega)).1] at h20; cases h20
        refine Sl.calm (Cm.pick_f rfl rfl) rfl ?_
        refine Sl.calm (Cm.move rfl) rfl ?_
        refine Sl.skip rfl rfl rfl rfl ?_
        refine Sl.skip rfl rfl rfl rfl ?_
        refine Sl.skip rfl rfl rfl rfl ?_
        refine Sl.skip rfl rfl rfl rfl ?_
        refine Sl.calm (Cm.pick_t rfl rfl) rfl ?_
        refine Sl.nil ?_
        refine At.weak [(0, _), (3, _), (5, _), (6, _), (7, _), (8, _), (9, _), (27, _)] ⟨rfl, rfl, rfl, rfl, rfl, rfl, rfl, rfl, trivial⟩ ?_
        refine At.go ?_
        refine Sc.cond_t rfl ?_
        refine Sc.seq ?_
        refine Sc.region ?_
        refine Sl.calm (Cm.assign rfl) rfl ?_
        refine Sl.nil ?_
        refine At.go ?_
        refine Sc.ret ?_
        refine At.then_ret ?_
        refine At.block_ret ?_
        refine At.then_ret ?_
        refine At.then_ret ?_
        refine At.block_ret ?_
        refine At.then_ret ?_
        refine At.ret1 rfl rfl ?_
        exact ⟨_, rfl, by rw [decide_eq_false hbad], hF4⟩
      ·
        rw [less_not] at h20
        have g1 : Op.bytesLess (prevX X k) (X.getD k x0).1 = true := by revert h20; cases Op.bytesLess (prevX X k) (X.getD k x0).1 <;> simp
        refine Sl.calm (Cm.pick_f rfl rfl) rfl ?_
        refine Sl.calm (Cm.move rfl) rfl ?_
        refine Sl.want rfl rfl (Cm.field fld54_1 rfl) rfl ?_
        refine Sl.want rfl rfl (Cm.ld sca31 rfl (cellF hg4 rfl)) rfl ?_
        refine Sl.want rfl rfl (Cm.len sl31 rfl) rfl ?_
        refine Sl.forkWant rfl rfl (Cm.gtr rfl rfl) rfl (fun h26 => ?_) (fun h26 => ?_)
        ·
          have hbad : ¬ mayX X := fun h => by have := (h.1 k (by omega)).2.2.2; omega
          refine Sl.calm (Cm.pick_f rfl rfl) rfl ?_
          refine Sl.nil ?_
          refine At.weak [(0, _), (3, _), (5, _), (6, _), (7, _), (8, _), (9, _), (27, _)] ⟨rfl, rfl, rfl, rfl, rfl, rfl, rfl, rfl, trivial⟩ ?_
          refine At.go ?_
          refine Sc.cond_t rfl ?_
          refine Sc.seq ?_
          refine Sc.region ?_
          refine Sl.calm (Cm.assign rfl) rfl ?_
          refine Sl.nil ?_
          refine At.go ?_
          refine Sc.ret ?_
          refine At.then_ret ?_
          refine At.block_ret ?_
          refine At.then_ret ?_
          refine At.then_ret ?_
          refine At.block_ret ?_
          refine At.then_ret ?_
          refine At.ret1 rfl rfl ?_
          exact ⟨_, rfl, by rw [decide_eq_false hbad], hF4⟩
        ·
          refine Sl.calm (Cm.pick_f rfl rfl) rfl ?_
          refine Sl.nil ?_
          refine At.weak [(0, _), (3, _), (5, _), (6, _), (7, _), (8, _), (9, _), (27, _)] ⟨rfl, rfl, rfl, rfl, rfl, rfl, rfl, rfl, trivial⟩ ?_
          refine At.go ?_
          refine Sc.cond_f rfl ?_
          refine Sc.skip ?_
          refine At.go ?_
          refine Sc.region ?_
          refine Sl.calm (Cm.field fld54_0 rfl) rfl ?_
          refine Sl.calm (Cm.ld sca9 rfl (cellF hg4 rfl)) rfl ?_
          refine Sl.calm (Cm.assign rfl) rfl ?_
          refine Sl.nil ?_
          refine At.block_normal ?_
          refine At.weak [(0, _), (3, _), (5, _), (6, _), (7, _), (8, _), (9, _), (27, _)] ⟨rfl, rfl, rfl, rfl, rfl, rfl, rfl, rfl, trivial⟩ ?_
          refine At.go ?_
          refine Sc.region ?_
          refine Sl.calm (Cm.add64 rfl rfl (by omega)) rfl ?_
          refine Sl.calm (Cm.move rfl) rfl ?_
          refine Sl.nil ?_
          refine At.again (k + 1) ⟨rfl, rfl, rfl, rfl, rfl, trivial⟩ ⟨by omega, fun i hi => ?_, hF4⟩ (by show X.length - (k + 1) < X.length - k; omega)
          by_cases hik : i = k
          · subst hik; exact ⟨g1, by have := h14.1.2; omega, h14.2, by omega⟩
          · exact hgood i (by omega)
    ·
      rw [decide_eq_false h14]
      have hbad : ¬ mayX X := fun h => h14 (by have g := h.1 k (by omega); have := List.length_pos_iff.2 (less_ne g.1); exact ⟨⟨by omega, by have := g.2.1; omega⟩, g.2.2.1⟩)
      refine Sl.calm (Cm.not rfl) rfl ?_
      refine Sl.calm (Cm.move rfl) rfl ?_
      refine Sl.skip rfl rfl rfl rfl ?_
      refine Sl.skip rfl rfl rfl rfl ?_
      refine Sl.skip rfl rfl rfl rfl ?_
      refine Sl.skip rfl rfl rfl rfl ?_
      refine Sl.calm (Cm.pick_t rfl rfl) rfl ?_
      refine Sl.calm (Cm.move rfl) rfl ?_
      refine Sl.skip rfl rfl rfl rfl ?_
      refine Sl.skip rfl rfl rfl rfl ?_
      refine Sl.skip rfl rfl rfl rfl ?_
      refine Sl.skip rfl rfl rfl rfl ?_
      refine Sl.calm (Cm.pick_t rfl rfl) rfl ?_
      refine Sl.nil ?_
      refine At.weak [(0, _), (3, _), (5, _), (6, _), (7, _), (8, _), (9, _), (27, _)] ⟨rfl, rfl, rfl, rfl, rfl, rfl, rfl, rfl, trivial⟩ ?_
      refine At.go ?_
      refine Sc.cond_t rfl ?_
      refine Sc.seq ?_
      refine Sc.region ?_
      refine Sl.calm (Cm.assign rfl) rfl ?_
      refine Sl.nil ?_
      refine At.go ?_
      refine Sc.ret ?_
      refine At.then_ret ?_
      refine At.block_ret ?_
      refine At.then_ret ?_
      refine At.then_ret ?_
      refine At.block_ret ?_
      refine At.then_ret ?_
      refine At.ret1 rfl rfl ?_
      exact ⟨_, rfl, by rw [decide_eq_false hbad], hF4⟩
  ·
    refine Sl.nil ?_
    refine At.go ?_
    refine Sc.seq ?_
    refine Sc.cond_f rfl ?_
    refine Sc.exit ?_
    refine At.then_exit ?_
    refine At.then_exit ?_
    refine At.block_hit ?_
    refine At.go ?_
    refine Sc.seq ?_
    refine Sc.region ?_
    refine Sl.calm (Cm.move rfl) rfl ?_
    refine Sl.calm (Cm.len sl32 rfl) rfl ?_
    refine Sl.calm (Cm.leq rfl rfl) rfl ?_
    refine Sl.calm (Cm.assign rfl) rfl ?_
    refine Sl.nil ?_
    refine At.weak [(0, _), (2, _), (3, _), (6, _), (7, _), (8, _), (9, _)] ⟨rfl, rfl, rfl, rfl, rfl, rfl, rfl, trivial⟩ ?_
    refine At.go ?_
    refine Sc.ret ?_
    refine At.ret1 rfl rfl ?_
    refine ⟨_, rfl, ?_, hF2⟩
    have hk2 : k = X.length := by omega
    subst hk2
    congr 1
    exact decide_eq_decide.2 ⟨fun h => ⟨hgood, by omega⟩, fun h => by have := h.2; omega⟩
variable {D : Nat → Prop}
set_option maxHeartbeats 4000000 in
theorem may_ok (p : NdH × Nd) (W : World) (hn : NdV D W.heap p) (hsm : smN p.2) :
    Calls Try.prog 31 [.agg (encN p).toArray].toArray W (Ret fun v w' => v = .bool (decide (mayN p.2)) ∧ Foot nob W w') := by
  have no : ∀ w', ¬ mayN p.2 → Foot nob W w' → Ret (fun v w' => v = .bool (decide (mayN p.2)) ∧ Foot nob W w') (.returned (.bool false)) w' := fun w' h f => ⟨_, rfl, by rw [decide_eq_false h], f⟩
  have yes : ∀ w', (mayN p.2 ↔ mayX p.2.xs) → Foot nob W w' → Ret (fun v w' => v = .bool (decide (mayN p.2)) ∧ Foot nob W w') (.returned (.bool (decide (mayX p.2.xs)))) w' := fun w' h f => ⟨_, rfl, congrArg _ (decide_eq_decide.2 h.symm), f⟩
  refine calls_of_sc 59 [(0, _)] Try.func31 rfl rfl rfl (enter_slots ⟨rfl, trivial⟩) ?_
  refine Sc.seq ?_
  refine Sc.region ?_
  refine Sl.box rfl rfl ?_
  intro w1 hg1 hs1 hf1
  obtain ⟨g, hg⟩ : ∃ g, g = W.heap.size := ⟨_, rfl⟩
  rw [← hg] at hg1 hs1 ⊢
  replace hg1 : w1.heap[g]? = some (.cells (encN p).toArray 34 (0, 0)) := hg1
  refine Sl.calm (Cm.assign rfl) rfl ?_
  refine Sl.nil ?_
  refine At.go ?_
  refine Sc.seq ?_
  refine Sc.region ?_
  refine Sl.calm (Cm.field fld34_3 rfl) rfl ?_
  refine Sl.calm (Cm.ldM (cs := encA p.2) agg30 rfl (cellsF hg1 3 rfl)) rfl ?_
  refine Sl.allocC zc30 rfl ?_
  intro w2 hg2 hs2 hf2
  obtain ⟨q, hq⟩ : ∃ q, q = w1.heap.size := ⟨_, rfl⟩
  rw [← hq] at hg2 ⊢
  refine Sl.storeAll (vs := encA p.2) agg30 rfl rfl (by simp [encA, Value.oneCell']) hg2 rfl ?_
  intro w3 hg3 hs3 hf3
  have hf13 : Foot nob w1 w3 := hf2.trans_to hf3 (fun k e => .inr (by have e : k = q := e; omega))
  have hg4 := hf13.obj hg1 id
  have hF3 := (hf1.trans hf13).draws 1
  have hn3 := hn.grow hF3
  refine Sl.nil ?_
  refine At.weak [(0, _), (1, _), (2, _), (3, _)] ⟨rfl, rfl, rfl, rfl, trivial⟩ ?_
  refine At.go ?_
  refine Sc.seq ?_
  refine Sc.quiet 9 [0, 1, 2, 3, 4, 5, 6, 7, 8] mixed (by kernel_rfl) ?_
  refine Sx.calm rfl rfl (Cm.field fld34_4 rfl) rfl ?_
  refine Sx.calm rfl rfl (Cm.ld sca31 rfl (by first | exact cellF hg4 rfl | exact cellF hg3 rfl)) rfl ?_
  refine Sx.calm rfl rfl (Cm.len sl31 rfl) rfl ?_
  rw [hn3.2.1.1]
  refine Sx.calm rfl rfl (Cm.eql rfl rfl) rfl ?_
  refine Sx.calm rfl rfl (Cm.field fld34_5 rfl) rfl ?_
  refine Sx.calm rfl rfl (Cm.ld sca9 rfl (by first | exact cellF hg4 rfl | exact cellF hg3 rfl)) rfl ?_
  refine Sx.calm rfl rfl (Cm.eqlBs rfl rfl) rfl ?_
  refine Sx.calm rfl rfl (Cm.assign rfl) rfl ?_
  refine Sx.calm rfl rfl (Cm.assign rfl) rfl ?_
  refine Sx.nil ?_
  refine At.weak [(0, _), (1, _), (2, _), (3, _), (4, _), (5, _)] ⟨rfl, rfl, rfl, rfl, rfl, rfl, trivial⟩ ?_
  refine At.go ?_
  refine Sc.seq ?_
  refine Sc.seq ?_
  refine Sc.region ?_
  refine Sl.calm (Cm.field fld34_2 rfl) rfl ?_
  refine Sl.calm (Cm.ld sca3 rfl (by first | exact cellF hg4 rfl | exact cellF hg3 rfl)) rfl ?_
  refine Sl.nil ?_
  refine At.weak [(0, _), (1, _), (2, _), (3, _), (4, _), (5, _), (16, _)] ⟨rfl, rfl, rfl, rfl, rfl, rfl, rfl, trivial⟩ ?_
  refine At.go ?_
  refine Sc.block ?_
  refine Sc.seq ?_
  refine Sc.region ?_
  refine Sl.fork (Cm.eql rfl rfl) rfl (fun h18 => ?_) (fun h18 => ?_)
  ·
    refine Sl.calm (Cm.assign rfl) rfl ?_
    refine Sl.nil ?_
    refine At.weak [(0, _), (1, _), (2, _), (3, _), (4, _), (5, _), (16, _), (17, _)] ⟨rfl, rfl, rfl, rfl, rfl, rfl, rfl, rfl, trivial⟩ ?_
    refine At.go ?_
    refine Sc.cond_t rfl ?_
    refine Sc.skip ?_
    refine At.block_normal ?_
    refine At.go ?_
    refine Sc.seq ?_
    refine Sc.region ?_
    refine Sl.calm (Cm.move rfl) rfl ?_
    by_cases h30 : (p.2.data.length : Int) = 0
    ·
      rw [decide_eq_true h30]
      refine Sl.calm (Cm.move rfl) rfl ?_
      refine Sl.want rfl rfl (Cm.move rfl) rfl ?_
      by_cases h32 : p.2.tgt = []
      ·
        rw [decide_eq_true h32]
        refine Sl.calm (Cm.pick_t rfl rfl) rfl ?_
        refine Sl.calm (Cm.move rfl) rfl ?_
        refine Sl.want rfl rfl (Cm.field fld34_7 rfl) rfl ?_
        refine Sl.forkWant rfl rfl (Cm.ofBool (Cm.ld sca4 rfl (by first | exact cellF hg4 rfl | exact cellF hg3 rfl))) rfl (fun h36 => ?_) (fun h36 => ?_)
        ·
          refine Sl.want rfl rfl (Cm.not rfl) rfl ?_
          refine Sl.calm (Cm.pick_t rfl rfl) rfl ?_
          refine Sl.calm (Cm.move rfl) rfl ?_
          refine Sl.skip rfl rfl rfl rfl ?_
          refine Sl.skip rfl rfl rfl rfl ?_
          refine Sl.skip rfl rfl rfl rfl ?_
          refine Sl.calm (Cm.pick_f rfl rfl) rfl ?_
          refine Sl.calm (Cm.move rfl) rfl ?_
          refine Sl.skip rfl rfl rfl rfl ?_
          refine Sl.skip rfl rfl rfl rfl ?_
          refine Sl.skip rfl rfl rfl rfl ?_
          refine Sl.calm (Cm.pick_f rfl rfl) rfl ?_
          refine Sl.calm (Cm.move rfl) rfl ?_
          refine Sl.skip rfl rfl rfl rfl ?_
          refine Sl.skip rfl rfl rfl rfl ?_
          refine Sl.skip rfl rfl rfl rfl ?_
          refine Sl.calm (Cm.pick_f rfl rfl) rfl ?_
          refine Sl.calm (Cm.move rfl) rfl ?_
          refine Sl.skip rfl rfl rfl rfl ?_
          refine Sl.skip rfl rfl rfl rfl ?_
          refine Sl.skip rfl rfl rfl rfl ?_
          refine Sl.calm (Cm.pick_f rfl rfl) rfl ?_
          refine Sl.calm (Cm.assign rfl) rfl ?_
          refine Sl.nil ?_
          refine At.weak [(0, _), (1, _), (2, _), (3, _), (4, _), (5, _), (16, _), (17, _)] ⟨rfl, rfl, rfl, rfl, rfl, rfl, rfl, rfl, trivial⟩ ?_
          refine At.go ?_
          refine Sc.ret ?_
          refine At.ret1 rfl rfl ?_
          first
            | exact no _ (fun hm => by have := hm.1; omega) hF3
            | exact no _ (fun hm => by have := hm.2.2.2.2.2.2.1; omega) hF3
            | exact no _ (fun hm => hm.2.2.2.2.2.1.elim (fun e => by omega) (fun e => h30 (by rw [e]; rfl))) hF3
            | exact no _ (fun hm => by have m := hm.2.2.2.2.2.2.2.1; unfold okT at m; rw [if_neg (by omega)] at m; exact h32 m) hF3
            | exact no _ (fun hm => by have m := hm.2.2.2.2.2.2.2.1; unfold okT at m; rw [if_pos h26] at m; exact h32 ⟨⟨by have := List.length_pos_iff.2 m.1; omega, by have := m.2.1; omega⟩, m.2.2⟩) hF3
            | exact no _ (fun hm => by rw [hm.2.1] at h36; cases h36) hF3
            | exact no _ (fun hm => h42 hm.2.2.1) hF3
            | exact no _ (fun hm => h47 hm.2.2.2.1) hF3
            | exact no _ (fun hm => h52 hm.2.2.2.2.1) hF3
            | refine yes _ ?_ (hF3.trans hf6)
              have k2 : okT p.2 := by
                unfold okT
                first
                  | (rw [if_neg (by omega)]; exact h32)
                  | (rw [if_pos h26]; exact ⟨fun e => by have := h32.1.1; have e0 := congrArg List.length e; have e1 : ([] : List UInt8).length = 0 := rfl; omega, by have := h32.1.2; omega, h32.2⟩)
              have k1 : p.2.kind = 2 ∨ p.2.data = [] := by
                first
                  | exact .inl h20
                  | exact .inr (List.length_eq_zero_iff.1 (by omega))
              exact ⟨fun hm => hm.2.2.2.2.2.2.2.2, fun hx => ⟨by omega, by simpa using h36, h42, h47, h52, k1, by omega, k2, hx⟩⟩
        ·
          refine Sl.want rfl rfl (Cm.not rfl) rfl ?_
          refine Sl.calm (Cm.pick_t rfl rfl) rfl ?_
          refine Sl.calm (Cm.move rfl) rfl ?_
          refine Sl.want rfl rfl (Cm.field fld30_0 rfl) rfl ?_
          refine Sl.want rfl rfl (Cm.ld sca3 rfl (by first | exact cellF hg4 rfl | exact cellF hg3 rfl)) rfl ?_
          refine Sl.callWant rfl rfl fn57 rfl (within_ok _ _ _ _) rfl ?_
          rintro _ w4 ⟨rfl, hw4⟩
          subst w4
          by_cases h42 : 0 ≤ p.2.md ∧ p.2.md ≤ 511
          ·
            rw [decide_eq_true h42]
            refine Sl.calm (Cm.pick_t rfl rfl) rfl ?_
            refine Sl.calm (Cm.move rfl) rfl ?_
            refine Sl.want rfl rfl (Cm.field fld30_1 rfl) rfl ?_
            refine Sl.want rfl rfl (Cm.ld sca3 rfl (by first | exact cellF hg4 rfl | exact cellF hg3 rfl)) rfl ?_
            refine Sl.callWant rfl rfl fn57 rfl (within_ok _ _ _ _) rfl ?_
            rintro _ w4 ⟨rfl, hw4⟩
            subst w4
            by_cases h47 : 0 ≤ p.2.ud ∧ p.2.ud ≤ 65535
            ·
              rw [decide_eq_true h47]
              refine Sl.calm (Cm.pick_t rfl rfl) rfl ?_
              refine Sl.calm (Cm.move rfl) rfl ?_
              refine Sl.want rfl rfl (Cm.field fld30_2 rfl) rfl ?_
              refine Sl.want rfl rfl (Cm.ld sca3 rfl (by first | exact cellF hg4 rfl | exact cellF hg3 rfl)) rfl ?_
              refine Sl.callWant rfl rfl fn57 rfl (within_ok _ _ _ _) rfl ?_
              rintro _ w4 ⟨rfl, hw4⟩
              subst w4
              by_cases h52 : 0 ≤ p.2.gd ∧ p.2.gd ≤ 65535
              ·
                rw [decide_eq_true h52]
                refine Sl.calm (Cm.pick_t rfl rfl) rfl ?_
                refine Sl.calm (Cm.move rfl) rfl ?_
                refine Sl.want rfl rfl (Cm.field fld34_6 rfl) rfl ?_
                refine Sl.want rfl rfl (Cm.ld sca32 rfl (by first | exact cellF hg4 rfl | exact cellF hg3 rfl)) rfl ?_
                refine Sl.callWant rfl rfl fn58 rfl ((by show Calls _ _ [Value.slice p.1.xs.a p.1.xs.n p.1.xs.c].toArray _ _; rw [hn3.2.2.1]; exact mayX_ok _ _ _ _ (hn3.2.2.xav hsm.2.2))) rfl ?_
                rintro _ w6 ⟨rfl, hf6⟩
                refine Sl.calm (Cm.pick_t rfl rfl) rfl ?_
                refine Sl.calm (Cm.assign rfl) rfl ?_
                refine Sl.nil ?_
                refine At.weak [(0, _), (1, _), (2, _), (3, _), (4, _), (5, _), (16, _), (17, _)] ⟨rfl, rfl, rfl, rfl, rfl, rfl, rfl, rfl, trivial⟩ ?_
                refine At.go ?_
                refine Sc.ret ?_
                refine At.ret1 rfl rfl ?_
                first
                  | exact no _ (fun hm => by have := hm.1; omega) hF3
                  | exact no _ (fun hm => by have := hm.2.2.2.2.2.2.1; omega) hF3
                  | exact no _ (fun hm => hm.2.2.2.2.2.1.elim (fun e => by omega) (fun e => h30 (by rw [e]; rfl))) hF3
                  | exact no _ (fun hm => by have m := hm.2.2.2.2.2.2.2.1; unfold okT at m; rw [if_neg (by omega)] at m; exact h32 m) hF3
                  | exact no _ (fun hm => by have m := hm.2.2.2.2.2.2.2.1; unfold okT at m; rw [if_pos h26] at m; exact h32 ⟨⟨by have := List.length_pos_iff.2 m.1; omega, by have := m.2.1; omega⟩, m.2.2⟩) hF3
                  | exact no _ (fun hm => by rw [hm.2.1] at h36; cases h36) hF3
                  | exact no _ (fun hm => h42 hm.2.2.1) hF3
                  | exact no _ (fun hm => h47 hm.2.2.2.1) hF3
                  | exact no _ (fun hm => h52 hm.2.2.2.2.1) hF3
                  | refine yes _ ?_ (hF3.trans hf6)
                    have k2 : okT p.2 := by
                      unfold okT
                      first
                        | (rw [if_neg (by omega)]; exact h32)
                        | (rw [if_pos h26]; exact ⟨fun e => by have := h32.1.1; have e0 := congrArg List.length e; have e1 : ([] : List UInt8).length = 0 := rfl; omega, by have := h32.1.2; omega, h32.2⟩)
                    have k1 : p.2.kind = 2 ∨ p.2.data = [] := by
                      first
                        | exact .inl h20
                        | exact .inr (List.length_eq_zero_iff.1 (by omega))
                    exact ⟨fun hm => hm.2.2.2.2.2.2.2.2, fun hx => ⟨by omega, by simpa using h36, h42, h47, h52, k1, by omega, k2, hx⟩⟩
              ·
                rw [decide_eq_false h52]
                refine Sl.calm (Cm.pick_t rfl rfl) rfl ?_
                refine Sl.calm (Cm.move rfl) rfl ?_
                refine Sl.skip rfl rfl rfl rfl ?_
                refine Sl.skip rfl rfl rfl rfl ?_
                refine Sl.skip rfl rfl rfl rfl ?_
                refine Sl.calm (Cm.pick_f rfl rfl) rfl ?_
                refine Sl.calm (Cm.assign rfl) rfl ?_
                refine Sl.nil ?_
                refine At.weak [(0, _), (1, _), (2, _), (3, _), (4, _), (5, _), (16, _), (17, _)] ⟨rfl, rfl, rfl, rfl, rfl, rfl, rfl, rfl, trivial⟩ ?_
                refine At.go ?_
                refine Sc.ret ?_
                refine At.ret1 rfl rfl ?_
                first
                  | exact no _ (fun hm => by have := hm.1; omega) hF3
                  | exact no _ (fun hm => by have := hm.2.2.2.2.2.2.1; omega) hF3
                  | exact no _ (fun hm => hm.2.2.2.2.2.1.elim (fun e => by omega) (fun e => h30 (by rw [e]; rfl))) hF3
                  | exact no _ (fun hm => by have m := hm.2.2.2.2.2.2.2.1; unfold okT at m; rw [if_neg (by omega)] at m; exact h32 m) hF3
                  | exact no _ (fun hm => by have m := hm.2.2.2.2.2.2.2.1; unfold okT at m; rw [if_pos h26] at m; exact h32 ⟨⟨by have := List.length_pos_iff.2 m.1; omega, by have := m.2.1; omega⟩, m.2.2⟩) hF3
                  | exact no _ (fun hm => by rw [hm.2.1] at h36; cases h36) hF3
                  | exact no _ (fun hm => h42 hm.2.2.1) hF3
                  | exact no _ (fun hm => h47 hm.2.2.2.1) hF3
                  | exact no _ (fun hm => h52 hm.2.2.2.2.1) hF3
                  | refine yes _ ?_ (hF3.trans hf6)
                    have k2 : okT p.2 := by
                      unfold okT
                      first
                        | (rw [if_neg (by omega)]; exact h32)
                        | (rw [if_pos h26]; exact ⟨fun e => by have := h32.1.1; have e0 := congrArg List.length e; have e1 : ([] : List UInt8).length = 0 := rfl; omega, by have := h32.1.2; omega, h32.2⟩)
                    have k1 : p.2.kind = 2 ∨ p.2.data = [] := by
                      first
                        | exact .inl h20
                        | exact .inr (List.length_eq_zero_iff.1 (by omega))
                    exact ⟨fun hm => hm.2.2.2.2.2.2.2.2, fun hx => ⟨by omega, by simpa using h36, h42, h47, h52, k1, by omega, k2, hx⟩⟩
            ·
              rw [decide_eq_false h47]
              refine Sl.calm (Cm.pick_t rfl rfl) rfl ?_
              refine Sl.calm (Cm.move rfl) rfl ?_
              refine Sl.skip rfl rfl rfl rfl ?_
              refine Sl.skip rfl rfl rfl rfl ?_
              refine Sl.skip rfl rfl rfl rfl ?_
              refine Sl.calm (Cm.pick_f rfl rfl) rfl ?_
              refine Sl.calm (Cm.move rfl) rfl ?_
              refine Sl.skip rfl rfl rfl rfl ?_
              refine Sl.skip rfl rfl rfl rfl ?_
              refine Sl.skip rfl rfl rfl rfl ?_
              refine Sl.calm (Cm.pick_f rfl rfl) rfl ?_
              refine Sl.calm (Cm.assign rfl) rfl ?_
              refine Sl.nil ?_
              refine At.weak [(0, _), (1, _), (2, _), (3, _), (4, _), (5, _), (16, _), (17, _)] ⟨rfl, rfl, rfl, rfl, rfl, rfl, rfl, rfl, trivial⟩ ?_
              refine At.go ?_
              refine Sc.ret ?_
              refine At.ret1 rfl rfl ?_
              first
                | exact no _ (fun hm => by have := hm.1; omega) hF3
                | exact no _ (fun hm => by have := hm.2.2.2.2.2.2.1; omega) hF3
                | exact no _ (fun hm => hm.2.2.2.2.2.1.elim (fun e => by omega) (fun e => h30 (by rw [e]; rfl))) hF3
                | exact no _ (fun hm => by have m := hm.2.2.2.2.2.2.2.1; unfold okT at m; rw [if_neg (by omega)] at m; exact h32 m) hF3
                | exact no _ (fun hm => by have m := hm.2.2.2.2.2.2.2.1; unfold okT at m; rw [if_pos h26] at m; exact h32 ⟨⟨by have := List.length_pos_iff.2 m.1; omega, by have := m.2.1; omega⟩, m.2.2⟩) hF3
                | exact no _ (fun hm => by rw [hm.2.1] at h36; cases h36) hF3
                | exact no _ (fun hm => h42 hm.2.2.1) hF3
                | exact no _ (fun hm => h47 hm.2.2.2.1) hF3
                | exact no _ (fun hm => h52 hm.2.2.2.2.1) hF3
                | refine yes _ ?_ (hF3.trans hf6)
                  have k2 : okT p.2 := by
                    unfold okT
                    first
                      | (rw [if_neg (by omega)]; exact h32)
                      | (rw [if_pos h26]; exact ⟨fun e => by have := h32.1.1; have e0 := congrArg List.length e; have e1 : ([] : List UInt8).length = 0 := rfl; omega, by have := h32.1.2; omega, h32.2⟩)
                  have k1 : p.2.kind = 2 ∨ p.2.data = [] := by
                    first
                      | exact .inl h20
                      | exact .inr (List.length_eq_zero_iff.1 (by omega))
                  exact ⟨fun hm => hm.2.2.2.2.2.2.2.2, fun hx => ⟨by omega, by simpa using h36, h42, h47, h52, k1, by omega, k2, hx⟩⟩
          ·
            rw [decide_eq_false h42]
            refine Sl.calm (Cm.pick_t rfl rfl) rfl ?_
            refine Sl.calm (Cm.move rfl) rfl ?_
            refine Sl.skip rfl rfl rfl rfl ?_
            refine Sl.skip rfl rfl rfl rfl ?_
            refine Sl.skip rfl rfl rfl rfl ?_
            refine Sl.calm (Cm.pick_f rfl rfl) rfl ?_
            refine Sl.calm (Cm.move rfl) rfl ?_
            refine Sl.skip rfl rfl rfl rfl ?_
            refine Sl.skip rfl rfl rfl rfl ?_
            refine Sl.skip rfl rfl rfl rfl ?_
            refine Sl.calm (Cm.pick_f rfl rfl) rfl ?_
            refine Sl.calm (Cm.move rfl) rfl ?_
            refine Sl.skip rfl rfl rfl rfl ?_
            refine Sl.skip rfl rfl rfl rfl ?_
            refine Sl.skip rfl rfl rfl rfl ?_
            refine Sl.calm (Cm.pick_f rfl rfl) rfl ?_
            refine Sl.calm (Cm.assign rfl) rfl ?_
            refine Sl.nil ?_
            refine At.weak [(0, _), (1, _), (2, _), (3, _), (4, _), (5, _), (16, _), (17, _)] ⟨rfl, rfl, rfl, rfl, rfl, rfl, rfl, rfl, trivial⟩ ?_
            refine At.go ?_
            refine Sc.ret ?_
            refine At.ret1 rfl rfl ?_
            first
              | exact no _ (fun hm => by have := hm.1; omega) hF3
              | exact no _ (fun hm => by have := hm.2.2.2.2.2.2.1; omega) hF3
              | exact no _ (fun hm => hm.2.2.2.2.2.1.elim (fun e => by omega) (fun e => h30 (by rw [e]; rfl))) hF3
              | exact no _ (fun hm => by have m := hm.2.2.2.2.2.2.2.1; unfold okT at m; rw [if_neg (by omega)] at m; exact h32 m) hF3
              | exact no _ (fun hm => by have m := hm.2.2.2.2.2.2.2.1; unfold okT at m; rw [if_pos h26] at m; exact h32 ⟨⟨by have := List.length_pos_iff.2 m.1; omega, by have := m.2.1; omega⟩, m.2.2⟩) hF3
              | exact no _ (fun hm => by rw [hm.2.1] at h36; cases h36) hF3
              | exact no _ (fun hm => h42 hm.2.2.1) hF3
              | exact no _ (fun hm => h47 hm.2.2.2.1) hF3
              | exact no _ (fun hm => h52 hm.2.2.2.2.1) hF3
              | refine yes _ ?_ (hF3.trans hf6)
                have k2 : okT p.2 := by
                  unfold okT
                  first
                    | (rw [if_neg (by omega)]; exact h32)
                    | (rw [if_pos h26]; exact ⟨fun e => by have := h32.1.1; have e0 := congrArg List.length e; have e1 : ([] : List UInt8).length = 0 := rfl; omega, by have := h32.1.2; omega, h32.2⟩)
                have k1 : p.2.kind = 2 ∨ p.2.data = [] := by
                  first
                    | exact .inl h20
                    | exact .inr (List.length_eq_zero_iff.1 (by omega))
                exact ⟨fun hm => hm.2.2.2.2.2.2.2.2, fun hx => ⟨by omega, by simpa using h36, h42, h47, h52, k1, by omega, k2, hx⟩⟩
      ·
        rw [decide_eq_false h32]
        refine Sl.calm (Cm.pick_t rfl rfl) rfl ?_
        refine Sl.calm (Cm.move rfl) rfl ?_
        refine Sl.skip rfl rfl rfl rfl ?_
        refine Sl.skip rfl rfl rfl rfl ?_
        refine Sl.skip rfl rfl rfl rfl ?_
        refine Sl.calm (Cm.pick_f rfl rfl) rfl ?_
        refine Sl.calm (Cm.move rfl) rfl ?_
        refine Sl.skip rfl rfl rfl rfl ?_
        refine Sl.skip rfl rfl rfl rfl ?_
        refine Sl.skip rfl rfl rfl rfl ?_
        refine Sl.calm (Cm.pick_f rfl rfl) rfl ?_
        refine Sl.calm (Cm.move rfl) rfl ?_
        refine Sl.skip rfl rfl rfl rfl ?_
        refine Sl.skip rfl rfl rfl rfl ?_
        refine Sl.skip rfl rfl rfl rfl ?_
        refine Sl.calm (Cm.pick_f rfl rfl) rfl ?_
        refine Sl.calm (Cm.move rfl) rfl ?_
        refine Sl.skip rfl rfl rfl rfl ?_
        refine Sl.skip rfl rfl rfl rfl ?_
        refine Sl.skip rfl rfl rfl rfl ?_
        refine Sl.calm (Cm.pick_f rfl rfl) rfl ?_
        refine Sl.calm (Cm.move rfl) rfl ?_
        refine Sl.skip rfl rfl rfl rfl ?_
        refine Sl.skip rfl rfl rfl rfl ?_
        refine Sl.skip rfl rfl rfl rfl ?_
        refine Sl.calm (Cm.pick_f rfl rfl) rfl ?_
        refine Sl.calm (Cm.assign rfl) rfl ?_
        refine Sl.nil ?_
        refine At.weak [(0, _), (1, _), (2, _), (3, _), (4, _), (5, _), (16, _), (17, _)] ⟨rfl, rfl, rfl, rfl, rfl, rfl, rfl, rfl, trivial⟩ ?_
        refine At.go ?_
        refine Sc.ret ?_
        refine At.ret1 rfl rfl ?_
        first
          | exact no _ (fun hm => by have := hm.1; omega) hF3
          | exact no _ (fun hm => by have := hm.2.2.2.2.2.2.1; omega) hF3
          | exact no _ (fun hm => hm.2.2.2.2.2.1.elim (fun e => by omega) (fun e => h30 (by rw [e]; rfl))) hF3
          | exact no _ (fun hm => by have m := hm.2.2.2.2.2.2.2.1; unfold okT at m; rw [if_neg (by omega)] at m; exact h32 m) hF3
          | exact no _ (fun hm => by have m := hm.2.2.2.2.2.2.2.1; unfold okT at m; rw [if_pos h26] at m; exact h32 ⟨⟨by have := List.length_pos_iff.2 m.1; omega, by have := m.2.1; omega⟩, m.2.2⟩) hF3
          | exact no _ (fun hm => by rw [hm.2.1] at h36; cases h36) hF3
          | exact no _ (fun hm => h42 hm.2.2.1) hF3
          | exact no _ (fun hm => h47 hm.2.2.2.1) hF3
          | exact no _ (fun hm => h52 hm.2.2.2.2.1) hF3
          | refine yes _ ?_ (hF3.trans hf6)
            have k2 : okT p.2 := by
              unfold okT
              first
                | (rw [if_neg (by omega)]; exact h32)
                | (rw [if_pos h26]; exact ⟨fun e => by have := h32.1.1; have e0 := congrArg List.length e; have e1 : ([] : List UInt8).length = 0 := rfl; omega, by have := h32.1.2; omega, h32.2⟩)
            have k1 : p.2.kind = 2 ∨ p.2.data = [] := by
              first
                | exact .inl h20
                | exact .inr (List.length_eq_zero_iff.1 (by omega))
            exact ⟨fun hm => hm.2.2.2.2.2.2.2.2, fun hx => ⟨by omega, by simpa using h36, h42, h47, h52, k1, by omega, k2, hx⟩⟩
    ·
      rw [decide_eq_false h30]
      refine Sl.calm (Cm.move rfl) rfl ?_
      refine Sl.skip rfl rfl rfl rfl ?_
      refine Sl.calm (Cm.pick_f rfl rfl) rfl ?_
      refine Sl.calm (Cm.move rfl) rfl ?_
      refine Sl.skip rfl rfl rfl rfl ?_
      refine Sl.skip rfl rfl rfl rfl ?_
      refine Sl.skip rfl rfl rfl rfl ?_
      refine Sl.calm (Cm.pick_f rfl rfl) rfl ?_
      refine Sl.calm (Cm.move rfl) rfl ?_
      refine Sl.skip rfl rfl rfl rfl ?_
      refine Sl.skip rfl rfl rfl rfl ?_
      refine Sl.skip rfl rfl rfl rfl ?_
      refine Sl.calm (Cm.pick_f rfl rfl) rfl ?_
      refine Sl.calm (Cm.move rfl) rfl ?_
      refine Sl.skip rfl rfl rfl rfl ?_
      refine Sl.skip rfl rfl rfl rfl ?_
      refine Sl.skip rfl rfl rfl rfl ?_
      refine Sl.calm (Cm.pick_f rfl rfl) rfl ?_
      refine Sl.calm (Cm.move rfl) rfl ?_
      refine Sl.skip rfl rfl rfl rfl ?_
      refine Sl.skip rfl rfl rfl rfl ?_
      refine Sl.skip rfl rfl rfl rfl ?_
      refine Sl.calm (Cm.pick_f rfl rfl) rfl ?_
      refine Sl.calm (Cm.move rfl) rfl ?_
      refine Sl.skip rfl rfl rfl rfl ?_
      refine Sl.skip rfl rfl rfl rfl ?_
      refine Sl.skip rfl rfl rfl rfl ?_
      refine Sl.calm (Cm.pick_f rfl rfl) rfl ?_
      refine Sl.calm (Cm.assign rfl) rfl ?_
      refine Sl.nil ?_
      refine At.weak [(0, _), (1, _), (2, _), (3, _), (4, _), (5, _), (16, _), (17, _)] ⟨rfl, rfl, rfl, rfl, rfl, rfl, rfl, rfl, trivial⟩ ?_
      refine At.go ?_
      refine Sc.ret ?_
      refine At.ret1 rfl rfl ?_
      first
        | exact no _ (fun hm => by have := hm.1; omega) hF3
        | exact no _ (fun hm => by have := hm.2.2.2.2.2.2.1; omega) hF3
        | exact no _ (fun hm => hm.2.2.2.2.2.1.elim (fun e => by omega) (fun e => h30 (by rw [e]; rfl))) hF3
        | exact no _ (fun hm => by have m := hm.2.2.2.2.2.2.2.1; unfold okT at m; rw [if_neg (by omega)] at m; exact h32 m) hF3
        | exact no _ (fun hm => by have m := hm.2.2.2.2.2.2.2.1; unfold okT at m; rw [if_pos h26] at m; exact h32 ⟨⟨by have := List.length_pos_iff.2 m.1; omega, by have := m.2.1; omega⟩, m.2.2⟩) hF3
        | exact no _ (fun hm => by rw [hm.2.1] at h36; cases h36) hF3
        | exact no _ (fun hm => h42 hm.2.2.1) hF3
        | exact no _ (fun hm => h47 hm.2.2.2.1) hF3
        | exact no _ (fun hm => h52 hm.2.2.2.2.1) hF3
        | refine yes _ ?_ (hF3.trans hf6)
          have k2 : okT p.2 := by
            unfold okT
            first
              | (rw [if_neg (by omega)]; exact h32)
              | (rw [if_pos h26]; exact ⟨fun e => by have := h32.1.1; have e0 := congrArg List.length e; have e1 : ([] : List UInt8).length = 0 := rfl; omega, by have := h32.1.2; omega, h32.2⟩)
          have k1 : p.2.kind = 2 ∨ p.2.data = [] := by
            first
              | exact .inl h20
              | exact .inr (List.length_eq_zero_iff.1 (by omega))
          exact ⟨fun hm => hm.2.2.2.2.2.2.2.2, fun hx => ⟨by omega, by simpa using h36, h42, h47, h52, k1, by omega, k2, hx⟩⟩
  ·
    refine Sl.calm (Cm.assign rfl) rfl ?_
    refine Sl.nil ?_
    refine At.weak [(0, _), (1, _), (2, _), (3, _), (4, _), (5, _), (16, _), (17, _)] ⟨rfl, rfl, rfl, rfl, rfl, rfl, rfl, rfl, trivial⟩ ?_
    refine At.go ?_
    refine Sc.cond_f rfl ?_
    refine Sc.seq ?_
    refine Sc.region ?_
    refine Sl.fork (Cm.eql rfl rfl) rfl (fun h20 => ?_) (fun h20 => ?_)
    ·
      refine Sl.calm (Cm.assign rfl) rfl ?_
      refine Sl.nil ?_
      refine At.weak [(0, _), (1, _), (2, _), (3, _), (4, _), (5, _), (16, _), (17, _), (19, _)] ⟨rfl, rfl, rfl, rfl, rfl, rfl, rfl, rfl, rfl, trivial⟩ ?_
      refine At.go ?_
      refine Sc.cond_t rfl ?_
      refine Sc.region ?_
      refine Sl.calm (Cm.field fld34_4 rfl) rfl ?_
      refine Sl.calm (Cm.ld sca31 rfl (by first | exact cellF hg4 rfl | exact cellF hg3 rfl)) rfl ?_
      refine Sl.calm (Cm.len sl31 rfl) rfl ?_
      rw [hn3.2.1.1]
      refine Sl.calm (Cm.leq rfl rfl) rfl ?_
      refine Sl.calm (Cm.assign rfl) rfl ?_
      refine Sl.nil ?_
      refine At.block_normal ?_
      refine At.weak [(0, _), (1, _), (2, _), (3, _), (4, _), (5, _), (16, _), (17, _), (19, _)] ⟨rfl, rfl, rfl, rfl, rfl, rfl, rfl, rfl, rfl, trivial⟩ ?_
      refine At.go ?_
      refine Sc.seq ?_
      refine Sc.region ?_
      refine Sl.calm (Cm.move rfl) rfl ?_
      by_cases h30 : (p.2.data.length : Int) ≤ 4096
      ·
        rw [decide_eq_true h30]
        refine Sl.calm (Cm.move rfl) rfl ?_
        refine Sl.want rfl rfl (Cm.move rfl) rfl ?_
        by_cases h32 : p.2.tgt = []
        ·
          rw [decide_eq_true h32]
          refine Sl.calm (Cm.pick_t rfl rfl) rfl ?_
          refine Sl.calm (Cm.move rfl) rfl ?_
          refine Sl.want rfl rfl (Cm.field fld34_7 rfl) rfl ?_
          refine Sl.forkWant rfl rfl (Cm.ofBool (Cm.ld sca4 rfl (by first | exact cellF hg4 rfl | exact cellF hg3 rfl))) rfl (fun h36 => ?_) (fun h36 => ?_)
          ·
            refine Sl.want rfl rfl (Cm.not rfl) rfl ?_
            refine Sl.calm (Cm.pick_t rfl rfl) rfl ?_
            refine Sl.calm (Cm.move rfl) rfl ?_
            refine Sl.skip rfl rfl rfl rfl ?_
            refine Sl.skip rfl rfl rfl rfl ?_
            refine Sl.skip rfl rfl rfl rfl ?_
            refine Sl.calm (Cm.pick_f rfl rfl) rfl ?_
            refine Sl.calm (Cm.move rfl) rfl ?_
            refine Sl.skip rfl rfl rfl rfl ?_
            refine Sl.skip rfl rfl rfl rfl ?_
            refine Sl.skip rfl rfl rfl rfl ?_
            refine Sl.calm (Cm.pick_f rfl rfl) rfl ?_
            refine Sl.calm (Cm.move rfl) rfl ?_
            refine Sl.skip rfl rfl rfl rfl ?_
            refine Sl.skip rfl rfl rfl rfl ?_
            refine Sl.skip rfl rfl rfl rfl ?_
            refine Sl.calm (Cm.pick_f rfl rfl) rfl ?_
            refine Sl.calm (Cm.move rfl) rfl ?_
            refine Sl.skip rfl rfl rfl rfl ?_
            refine Sl.skip rfl rfl rfl rfl ?_
            refine Sl.skip rfl rfl rfl rfl ?_
            refine Sl.calm (Cm.pick_f rfl rfl) rfl ?_
            refine Sl.calm (Cm.assign rfl) rfl ?_
            refine Sl.nil ?_
            refine At.weak [(0, _), (1, _), (2, _), (3, _), (4, _), (5, _), (16, _), (17, _), (19, _)] ⟨rfl, rfl, rfl, rfl, rfl, rfl, rfl, rfl, rfl, trivial⟩ ?_
            refine At.go ?_
            refine Sc.ret ?_
            refine At.ret1 rfl rfl ?_
            first
              | exact no _ (fun hm => by have := hm.1; omega) hF3
              | exact no _ (fun hm => by have := hm.2.2.2.2.2.2.1; omega) hF3
              | exact no _ (fun hm => hm.2.2.2.2.2.1.elim (fun e => by omega) (fun e => h30 (by rw [e]; rfl))) hF3
              | exact no _ (fun hm => by have m := hm.2.2.2.2.2.2.2.1; unfold okT at m; rw [if_neg (by omega)] at m; exact h32 m) hF3
              | exact no _ (fun hm => by have m := hm.2.2.2.2.2.2.2.1; unfold okT at m; rw [if_pos h26] at m; exact h32 ⟨⟨by have := List.length_pos_iff.2 m.1; omega, by have := m.2.1; omega⟩, m.2.2⟩) hF3
              | exact no _ (fun hm => by rw [hm.2.1] at h36; cases h36) hF3
              | exact no _ (fun hm => h42 hm.2.2.1) hF3
              | exact no _ (fun hm => h47 hm.2.2.2.1) hF3
              | exact no _ (fun hm => h52 hm.2.2.2.2.1) hF3
              | refine yes _ ?_ (hF3.trans hf6)
                have k2 : okT p.2 := by
                  unfold okT
                  first
                    | (rw [if_neg (by omega)]; exact h32)
                    | (rw [if_pos h26]; exact ⟨fun e => by have := h32.1.1; have e0 := congrArg List.length e; have e1 : ([] : List UInt8).length = 0 := rfl; omega, by have := h32.1.2; omega, h32.2⟩)
                have k1 : p.2.kind = 2 ∨ p.2.data = [] := by
                  first
                    | exact .inl h20
                    | exact .inr (List.length_eq_zero_iff.1 (by omega))
                exact ⟨fun hm => hm.2.2.2.2.2.2.2.2, fun hx => ⟨by omega, by simpa using h36, h42, h47, h52, k1, by omega, k2, hx⟩⟩
          ·
            refine Sl.want rfl rfl (Cm.not rfl) rfl ?_
            refine Sl.calm (Cm.pick_t rfl rfl) rfl ?_
            refine Sl.calm (Cm.move rfl) rfl ?_
            refine Sl.want rfl rfl (Cm.field fld30_0 rfl) rfl ?_
            refine Sl.want rfl rfl (Cm.ld sca3 rfl (by first | exact cellF hg4 rfl | exact cellF hg3 rfl)) rfl ?_
            refine Sl.callWant rfl rfl fn57 rfl (within_ok _ _ _ _) rfl ?_
            rintro _ w4 ⟨rfl, hw4⟩
            subst w4
            by_cases h42 : 0 ≤ p.2.md ∧ p.2.md ≤ 511
            ·
              rw [decide_eq_true h42]
              refine Sl.calm (Cm.pick_t rfl rfl) rfl ?_
              refine Sl.calm (Cm.move rfl) rfl ?_
              refine Sl.want rfl rfl (Cm.field fld30_1 rfl) rfl ?_
              refine Sl.want rfl rfl (Cm.ld sca3 rfl (by first | exact cellF hg4 rfl | exact cellF hg3 rfl)) rfl ?_
              refine Sl.callWant rfl rfl fn57 rfl (within_ok _ _ _ _) rfl ?_
              rintro _ w4 ⟨rfl, hw4⟩
              subst w4
              by_cases h47 : 0 ≤ p.2.ud ∧ p.2.ud ≤ 65535
              ·
                rw [decide_eq_true h47]
                refine Sl.calm (Cm.pick_t rfl rfl) rfl ?_
                refine Sl.calm (Cm.move rfl) rfl ?_
                refine Sl.want rfl rfl (Cm.field fld30_2 rfl) rfl ?_
                refine Sl.want rfl rfl (Cm.ld sca3 rfl (by first | exact cellF hg4 rfl | exact cellF hg3 rfl)) rfl ?_
                refine Sl.callWant rfl rfl fn57 rfl (within_ok _ _ _ _) rfl ?_
                rintro _ w4 ⟨rfl, hw4⟩
                subst w4
                by_cases h52 : 0 ≤ p.2.gd ∧ p.2.gd ≤ 65535
                ·
                  rw [decide_eq_true h52]
                  refine Sl.calm (Cm.pick_t rfl rfl) rfl ?_
                  refine Sl.calm (Cm.move rfl) rfl ?_
                  refine Sl.want rfl rfl (Cm.field fld34_6 rfl) rfl ?_
                  refine Sl.want rfl rfl (Cm.ld sca32 rfl (by first | exact cellF hg4 rfl | exact cellF hg3 rfl)) rfl ?_
                  refine Sl.callWant rfl rfl fn58 rfl ((by show Calls _ _ [Value.slice p.1.xs.a p.1.xs.n p.1.xs.c].toArray _ _; rw [hn3.2.2.1]; exact mayX_ok _ _ _ _ (hn3.2.2.xav hsm.2.2))) rfl ?_
                  rintro _ w6 ⟨rfl, hf6⟩
                  refine Sl.calm (Cm.pick_t rfl rfl) rfl ?_
                  refine Sl.calm (Cm.assign rfl) rfl ?_
                  refine Sl.nil ?_
                  refine At.weak [(0, _), (1, _), (2, _), (3, _), (4, _), (5, _), (16, _), (17, _), (19, _)] ⟨rfl, rfl, rfl, rfl, rfl, rfl, rfl, rfl, rfl, trivial⟩ ?_
                  refine At.go ?_
                  refine Sc.ret ?_
                  refine At.ret1 rfl rfl ?_
                  first
                    | exact no _ (fun hm => by have := hm.1; omega) hF3
                    | exact no _ (fun hm => by have := hm.2.2.2.2.2.2.1; omega) hF3
                    | exact no _ (fun hm => hm.2.2.2.2.2.1.elim (fun e => by omega) (fun e => h30 (by rw [e]; rfl))) hF3
                    | exact no _ (fun hm => by have m := hm.2.2.2.2.2.2.2.1; unfold okT at m; rw [if_neg (by omega)] at m; exact h32 m) hF3
                    | exact no _ (fun hm => by have m := hm.2.2.2.2.2.2.2.1; unfold okT at m; rw [if_pos h26] at m; exact h32 ⟨⟨by have := List.length_pos_iff.2 m.1; omega, by have := m.2.1; omega⟩, m.2.2⟩) hF3
                    | exact no _ (fun hm => by rw [hm.2.1] at h36; cases h36) hF3
                    | exact no _ (fun hm => h42 hm.2.2.1) hF3
                    | exact no _ (fun hm => h47 hm.2.2.2.1) hF3
                    | exact no _ (fun hm => h52 hm.2.2.2.2.1) hF3
                    | refine yes _ ?_ (hF3.trans hf6)
                      have k2 : okT p.2 := by
                        unfold okT
                        first
                          | (rw [if_neg (by omega)]; exact h32)
                          | (rw [if_pos h26]; exact ⟨fun e => by have := h32.1.1; have e0 := congrArg List.length e; have e1 : ([] : List UInt8).length = 0 := rfl; omega, by have := h32.1.2; omega, h32.2⟩)
                      have k1 : p.2.kind = 2 ∨ p.2.data = [] := by
                        first
                          | exact .inl h20
                          | exact .inr (List.length_eq_zero_iff.1 (by omega))
                      exact ⟨fun hm => hm.2.2.2.2.2.2.2.2, fun hx => ⟨by omega, by simpa using h36, h42, h47, h52, k1, by omega, k2, hx⟩⟩
                ·
                  rw [decide_eq_false h52]
                  refine Sl.calm (Cm.pick_t rfl rfl) rfl ?_
                  refine Sl.calm (Cm.move rfl) rfl ?_
                  refine Sl.skip rfl rfl rfl rfl ?_
                  refine Sl.skip rfl rfl rfl rfl ?_
                  refine Sl.skip rfl rfl rfl rfl ?_
                  refine Sl.calm (Cm.pick_f rfl rfl) rfl ?_
                  refine Sl.calm (Cm.assign rfl) rfl ?_
                  refine Sl.nil ?_
                  refine At.weak [(0, _), (1, _), (2, _), (3, _), (4, _), (5, _), (16, _), (17, _), (19, _)] ⟨rfl, rfl, rfl, rfl, rfl, rfl, rfl, rfl, rfl, trivial⟩ ?_
                  refine At.go ?_
                  refine Sc.ret ?_
                  refine At.ret1 rfl rfl ?_
                  first
                    | exact no _ (fun hm => by have := hm.1; omega) hF3
                    | exact no _ (fun hm => by have := hm.2.2.2.2.2.2.1; omega) hF3
                    | exact no _ (fun hm => hm.2.2.2.2.2.1.elim (fun e => by omega) (fun e => h30 (by rw [e]; rfl))) hF3
                    | exact no _ (fun hm => by have m := hm.2.2.2.2.2.2.2.1; unfold okT at m; rw [if_neg (by omega)] at m; exact h32 m) hF3
                    | exact no _ (fun hm => by have m := hm.2.2.2.2.2.2.2.1; unfold okT at m; rw [if_pos h26] at m; exact h32 ⟨⟨by have := List.length_pos_iff.2 m.1; omega, by have := m.2.1; omega⟩, m.2.2⟩) hF3
                    | exact no _ (fun hm => by rw [hm.2.1] at h36; cases h36) hF3
                    | exact no _ (fun hm => h42 hm.2.2.1) hF3
                    | exact no _ (fun hm => h47 hm.2.2.2.1) hF3
                    | exact no _ (fun hm => h52 hm.2.2.2.2.1) hF3
                    | refine yes _ ?_ (hF3.trans hf6)
                      have k2 : okT p.2 := by
                        unfold okT
                        first
                          | (rw [if_neg (by omega)]; exact h32)
                          | (rw [if_pos h26]; exact ⟨fun e => by have := h32.1.1; have e0 := congrArg List.length e; have e1 : ([] : List UInt8).length = 0 := rfl; omega, by have := h32.1.2; omega, h32.2⟩)
                      have k1 : p.2.kind = 2 ∨ p.2.data = [] := by
                        first
                          | exact .inl h20
                          | exact .inr (List.length_eq_zero_iff.1 (by omega))
                      exact ⟨fun hm => hm.2.2.2.2.2.2.2.2, fun hx => ⟨by omega, by simpa using h36, h42, h47, h52, k1, by omega, k2, hx⟩⟩
              ·
                rw [decide_eq_false h47]
                refine Sl.calm (Cm.pick_t rfl rfl) rfl ?_
                refine Sl.calm (Cm.move rfl) rfl ?_
                refine Sl.skip rfl rfl rfl rfl ?_
                refine Sl.skip rfl rfl rfl rfl ?_
                refine Sl.skip rfl rfl rfl rfl ?_
                refine Sl.calm (Cm.pick_f rfl rfl) rfl ?_
                refine Sl.calm (Cm.move rfl) rfl ?_
                refine Sl.skip rfl rfl rfl rfl ?_
                refine Sl.skip rfl rfl rfl rfl ?_
                refine Sl.skip rfl rfl rfl rfl ?_
                refine Sl.calm (Cm.pick_f rfl rfl) rfl ?_
                refine Sl.calm (Cm.assign rfl) rfl ?_
                refine Sl.nil ?_
                refine At.weak [(0, _), (1, _), (2, _), (3, _), (4, _), (5, _), (16, _), (17, _), (19, _)] ⟨rfl, rfl, rfl, rfl, rfl, rfl, rfl, rfl, rfl, trivial⟩ ?_
                refine At.go ?_
                refine Sc.ret ?_
                refine At.ret1 rfl rfl ?_
                first
                  | exact no _ (fun hm => by have := hm.1; omega) hF3
                  | exact no _ (fun hm => by have := hm.2.2.2.2.2.2.1; omega) hF3
                  | exact no _ (fun hm => hm.2.2.2.2.2.1.elim (fun e => by omega) (fun e => h30 (by rw [e]; rfl))) hF3
                  | exact no _ (fun hm => by have m := hm.2.2.2.2.2.2.2.1; unfold okT at m; rw [if_neg (by omega)] at m; exact h32 m) hF3
                  | exact no _ (fun hm => by have m := hm.2.2.2.2.2.2.2.1; unfold okT at m; rw [if_pos h26] at m; exact h32 ⟨⟨by have := List.length_pos_iff.2 m.1; omega, by have := m.2.1; omega⟩, m.2.2⟩) hF3
                  | exact no _ (fun hm => by rw [hm.2.1] at h36; cases h36) hF3
                  | exact no _ (fun hm => h42 hm.2.2.1) hF3
                  | exact no _ (fun hm => h47 hm.2.2.2.1) hF3
                  | exact no _ (fun hm => h52 hm.2.2.2.2.1) hF3
                  | refine yes _ ?_ (hF3.trans hf6)
                    have k2 : okT p.2 := by
                      unfold okT
                      first
                        | (rw [if_neg (by omega)]; exact h32)
                        | (rw [if_pos h26]; exact ⟨fun e => by have := h32.1.1; have e0 := congrArg List.length e; have e1 : ([] : List UInt8).length = 0 := rfl; omega, by have := h32.1.2; omega, h32.2⟩)
                    have k1 : p.2.kind = 2 ∨ p.2.data = [] := by
                      first
                        | exact .inl h20
                        | exact .inr (List.length_eq_zero_iff.1 (by omega))
                    exact ⟨fun hm => hm.2.2.2.2.2.2.2.2, fun hx => ⟨by omega, by simpa using h36, h42, h47, h52, k1, by omega, k2, hx⟩⟩
            ·
              rw [decide_eq_false h42]
              refine Sl.calm (Cm.pick_t rfl rfl) rfl ?_
              refine Sl.calm (Cm.move rfl) rfl ?_
              refine Sl.skip rfl rfl rfl rfl ?_
              refine Sl.skip rfl rfl rfl rfl ?_
              refine Sl.skip rfl rfl rfl rfl ?_
              refine Sl.calm (Cm.pick_f rfl rfl) rfl ?_
              refine Sl.calm (Cm.move rfl) rfl ?_
              refine Sl.skip rfl rfl rfl rfl ?_
              refine Sl.skip rfl rfl rfl rfl ?_
              refine Sl.skip rfl rfl rfl rfl ?_
              refine Sl.calm (Cm.pick_f rfl rfl) rfl ?_
              refine Sl.calm (Cm.move rfl) rfl ?_
              refine Sl.skip rfl rfl rfl rfl ?_
              refine Sl.skip rfl rfl rfl rfl ?_
              refine Sl.skip rfl rfl rfl rfl ?_
              refine Sl.calm (Cm.pick_f rfl rfl) rfl ?_
              refine Sl.calm (Cm.assign rfl) rfl ?_
              refine Sl.nil ?_
              refine At.weak [(0, _), (1, _), (2, _), (3, _), (4, _), (5, _), (16, _), (17, _), (19, _)] ⟨rfl, rfl, rfl, rfl, rfl, rfl, rfl, rfl, rfl, trivial⟩ ?_
              refine At.go ?_
              refine Sc.ret ?_
              refine At.ret1 rfl rfl ?_
              first
                | exact no _ (fun hm => by have := hm.1; omega) hF3
                | exact no _ (fun hm => by have := hm.2.2.2.2.2.2.1; omega) hF3
                | exact no _ (fun hm => hm.2.2.2.2.2.1.elim (fun e => by omega) (fun e => h30 (by rw [e]; rfl))) hF3
                | exact no _ (fun hm => by have m := hm.2.2.2.2.2.2.2.1; unfold okT at m; rw [if_neg (by omega)] at m; exact h32 m) hF3
                | exact no _ (fun hm => by have m := hm.2.2.2.2.2.2.2.1; unfold okT at m; rw [if_pos h26] at m; exact h32 ⟨⟨by have := List.length_pos_iff.2 m.1; omega, by have := m.2.1; omega⟩, m.2.2⟩) hF3
                | exact no _ (fun hm => by rw [hm.2.1] at h36; cases h36) hF3
                | exact no _ (fun hm => h42 hm.2.2.1) hF3
                | exact no _ (fun hm => h47 hm.2.2.2.1) hF3
                | exact no _ (fun hm => h52 hm.2.2.2.2.1) hF3
                | refine yes _ ?_ (hF3.trans hf6)
                  have k2 : okT p.2 := by
                    unfold okT
                    first
                      | (rw [if_neg (by omega)]; exact h32)
                      | (rw [if_pos h26]; exact ⟨fun e => by have := h32.1.1; have e0 := congrArg List.length e; have e1 : ([] : List UInt8).length = 0 := rfl; omega, by have := h32.1.2; omega, h32.2⟩)
                  have k1 : p.2.kind = 2 ∨ p.2.data = [] := by
                    first
                      | exact .inl h20
                      | exact .inr (List.length_eq_zero_iff.1 (by omega))
                  exact ⟨fun hm => hm.2.2.2.2.2.2.2.2, fun hx => ⟨by omega, by simpa using h36, h42, h47, h52, k1, by omega, k2, hx⟩⟩
        ·
          rw [decide_eq_false h32]
          refine Sl.calm (Cm.pick_t rfl rfl) rfl ?_
          refine Sl.calm (Cm.move rfl) rfl ?_
          refine Sl.skip rfl rfl rfl rfl ?_
          refine Sl.skip rfl rfl rfl rfl ?_
          refine Sl.skip rfl rfl rfl rfl ?_
          refine Sl.calm (Cm.pick_f rfl rfl) rfl ?_
          refine Sl.calm (Cm.move rfl) rfl ?_
          refine Sl.skip rfl rfl rfl rfl ?_
          refine Sl.skip rfl rfl rfl rfl ?_
          refine Sl.skip rfl rfl rfl rfl ?_
          refine Sl.calm (Cm.pick_f rfl rfl) rfl ?_
          refine Sl.calm (Cm.move rfl) rfl ?_
          refine Sl.skip rfl rfl rfl rfl ?_
          refine Sl.skip rfl rfl rfl rfl ?_
          refine Sl.skip rfl rfl rfl rfl ?_
          refine Sl.calm (Cm.pick_f rfl rfl) rfl ?_
          refine Sl.calm (Cm.move rfl) rfl ?_
          refine Sl.skip rfl rfl rfl rfl ?_
          refine Sl.skip rfl rfl rfl rfl ?_
          refine Sl.skip rfl rfl rfl rfl ?_
          refine Sl.calm (Cm.pick_f rfl rfl) rfl ?_
          refine Sl.calm (Cm.move rfl) rfl ?_
          refine Sl.skip rfl rfl rfl rfl ?_
          refine Sl.skip rfl rfl rfl rfl ?_
          refine Sl.skip rfl rfl rfl rfl ?_
          refine Sl.calm (Cm.pick_f rfl rfl) rfl ?_
          refine Sl.calm (Cm.assign rfl) rfl ?_
          refine Sl.nil ?_
          refine At.weak [(0, _), (1, _), (2, _), (3, _), (4, _), (5, _), (16, _), (17, _), (19, _)] ⟨rfl, rfl, rfl, rfl, rfl, rfl, rfl, rfl, rfl, trivial⟩ ?_
          refine At.go ?_
          refine Sc.ret ?_
          refine At.ret1 rfl rfl ?_
          first
            | exact no _ (fun hm => by have := hm.1; omega) hF3
            | exact no _ (fun hm => by have := hm.2.2.2.2.2.2.1; omega) hF3
            | exact no _ (fun hm => hm.2.2.2.2.2.1.elim (fun e => by omega) (fun e => h30 (by rw [e]; rfl))) hF3
            | exact no _ (fun hm => by have m := hm.2.2.2.2.2.2.2.1; unfold okT at m; rw [if_neg (by omega)] at m; exact h32 m) hF3
            | exact no _ (fun hm => by have m := hm.2.2.2.2.2.2.2.1; unfold okT at m; rw [if_pos h26] at m; exact h32 ⟨⟨by have := List.length_pos_iff.2 m.1; omega, by have := m.2.1; omega⟩, m.2.2⟩) hF3
            | exact no _ (fun hm => by rw [hm.2.1] at h36; cases h36) hF3
            | exact no _ (fun hm => h42 hm.2.2.1) hF3
            | exact no _ (fun hm => h47 hm.2.2.2.1) hF3
            | exact no _ (fun hm => h52 hm.2.2.2.2.1) hF3
            | refine yes _ ?_ (hF3.trans hf6)
              have k2 : okT p.2 := by
                unfold okT
                first
                  | (rw [if_neg (by omega)]; exact h32)
                  | (rw [if_pos h26]; exact ⟨fun e => by have := h32.1.1; have e0 := congrArg List.length e; have e1 : ([] : List UInt8).length = 0 := rfl; omega, by have := h32.1.2; omega, h32.2⟩)
              have k1 : p.2.kind = 2 ∨ p.2.data = [] := by
                first
                  | exact .inl h20
                  | exact .inr (List.length_eq_zero_iff.1 (by omega))
              exact ⟨fun hm => hm.2.2.2.2.2.2.2.2, fun hx => ⟨by omega, by simpa using h36, h42, h47, h52, k1, by omega, k2, hx⟩⟩
      ·
        rw [decide_eq_false h30]
        refine Sl.calm (Cm.move rfl) rfl ?_
        refine Sl.skip rfl rfl rfl rfl ?_
        refine Sl.calm (Cm.pick_f rfl rfl) rfl ?_
        refine Sl.calm (Cm.move rfl) rfl ?_
        refine Sl.skip rfl rfl rfl rfl ?_
        refine Sl.skip rfl rfl rfl rfl ?_
        refine Sl.skip rfl rfl rfl rfl ?_
        refine Sl.calm (Cm.pick_f rfl rfl) rfl ?_
        refine Sl.calm (Cm.move rfl) rfl ?_
        refine Sl.skip rfl rfl rfl rfl ?_
        refine Sl.skip rfl rfl rfl rfl ?_
        refine Sl.skip rfl rfl rfl rfl ?_
        refine Sl.calm (Cm.pick_f rfl rfl) rfl ?_
        refine Sl.calm (Cm.move rfl) rfl ?_
        refine Sl.skip rfl rfl rfl rfl ?_
        refine Sl.skip rfl rfl rfl rfl ?_
        refine Sl.skip rfl rfl rfl rfl ?_
        refine Sl.calm (Cm.pick_f rfl rfl) rfl ?_
        refine Sl.calm (Cm.move rfl) rfl ?_
        refine Sl.skip rfl rfl rfl rfl ?_
        refine Sl.skip rfl rfl rfl rfl ?_
        refine Sl.skip rfl rfl rfl rfl ?_
        refine Sl.calm (Cm.pick_f rfl rfl) rfl ?_
        refine Sl.calm (Cm.move rfl) rfl ?_
        refine Sl.skip rfl rfl rfl rfl ?_
        refine Sl.skip rfl rfl rfl rfl ?_
        refine Sl.skip rfl rfl rfl rfl ?_
        refine Sl.calm (Cm.pick_f rfl rfl) rfl ?_
        refine Sl.calm (Cm.assign rfl) rfl ?_
        refine Sl.nil ?_
        refine At.weak [(0, _), (1, _), (2, _), (3, _), (4, _), (5, _), (16, _), (17, _), (19, _)] ⟨rfl, rfl, rfl, rfl, rfl, rfl, rfl, rfl, rfl, trivial⟩ ?_
        refine At.go ?_
        refine Sc.ret ?_
        refine At.ret1 rfl rfl ?_
        first
          | exact no _ (fun hm => by have := hm.1; omega) hF3
          | exact no _ (fun hm => by have := hm.2.2.2.2.2.2.1; omega) hF3
          | exact no _ (fun hm => hm.2.2.2.2.2.1.elim (fun e => by omega) (fun e => h30 (by rw [e]; rfl))) hF3
          | exact no _ (fun hm => by have m := hm.2.2.2.2.2.2.2.1; unfold okT at m; rw [if_neg (by omega)] at m; exact h32 m) hF3
          | exact no _ (fun hm => by have m := hm.2.2.2.2.2.2.2.1; unfold okT at m; rw [if_pos h26] at m; exact h32 ⟨⟨by have := List.length_pos_iff.2 m.1; omega, by have := m.2.1; omega⟩, m.2.2⟩) hF3
          | exact no _ (fun hm => by rw [hm.2.1] at h36; cases h36) hF3
          | exact no _ (fun hm => h42 hm.2.2.1) hF3
          | exact no _ (fun hm => h47 hm.2.2.2.1) hF3
          | exact no _ (fun hm => h52 hm.2.2.2.2.1) hF3
          | refine yes _ ?_ (hF3.trans hf6)
            have k2 : okT p.2 := by
              unfold okT
              first
                | (rw [if_neg (by omega)]; exact h32)
                | (rw [if_pos h26]; exact ⟨fun e => by have := h32.1.1; have e0 := congrArg List.length e; have e1 : ([] : List UInt8).length = 0 := rfl; omega, by have := h32.1.2; omega, h32.2⟩)
            have k1 : p.2.kind = 2 ∨ p.2.data = [] := by
              first
                | exact .inl h20
                | exact .inr (List.length_eq_zero_iff.1 (by omega))
            exact ⟨fun hm => hm.2.2.2.2.2.2.2.2, fun hx => ⟨by omega, by simpa using h36, h42, h47, h52, k1, by omega, k2, hx⟩⟩
    ·
      refine Sl.calm (Cm.assign rfl) rfl ?_
      refine Sl.nil ?_
      refine At.weak [(0, _), (1, _), (2, _), (3, _), (4, _), (5, _), (16, _), (17, _), (19, _)] ⟨rfl, rfl, rfl, rfl, rfl, rfl, rfl, rfl, rfl, trivial⟩ ?_
      refine At.go ?_
      refine Sc.cond_f rfl ?_
      refine Sc.seq ?_
      refine Sc.region ?_
      refine Sl.fork (Cm.eql rfl rfl) rfl (fun h26 => ?_) (fun h26 => ?_)
      ·
        refine Sl.calm (Cm.assign rfl) rfl ?_
        refine Sl.nil ?_
        refine At.weak [(0, _), (1, _), (2, _), (3, _), (4, _), (5, _), (16, _), (17, _), (19, _), (25, _)] ⟨rfl, rfl, rfl, rfl, rfl, rfl, rfl, rfl, rfl, rfl, trivial⟩ ?_
        refine At.go ?_
        refine Sc.cond_t rfl ?_
        refine Sc.region ?_
        refine Sl.calm (Cm.field fld34_5 rfl) rfl ?_
        refine Sl.calm (Cm.ld sca9 rfl (by first | exact cellF hg4 rfl | exact cellF hg3 rfl)) rfl ?_
        refine Sl.call fn56 rfl (plain_ok p.2.tgt 200 _) rfl ?_
        rintro _ w4 ⟨rfl, hw4⟩
        subst w4
        refine Sl.calm (Cm.assign rfl) rfl ?_
        refine Sl.nil ?_
        refine At.block_normal ?_
        refine At.weak [(0, _), (1, _), (2, _), (3, _), (4, _), (5, _), (16, _), (17, _), (19, _), (25, _)] ⟨rfl, rfl, rfl, rfl, rfl, rfl, rfl, rfl, rfl, rfl, trivial⟩ ?_
        refine At.go ?_
        refine Sc.seq ?_
        refine Sc.region ?_
        refine Sl.calm (Cm.move rfl) rfl ?_
        by_cases h30 : (p.2.data.length : Int) = 0
        ·
          rw [decide_eq_true h30]
          refine Sl.calm (Cm.move rfl) rfl ?_
          refine Sl.want rfl rfl (Cm.move rfl) rfl ?_
          by_cases h32 : plainP p.2.tgt 200
          ·
            rw [decide_eq_true h32]
            refine Sl.calm (Cm.pick_t rfl rfl) rfl ?_
            refine Sl.calm (Cm.move rfl) rfl ?_
            refine Sl.want rfl rfl (Cm.field fld34_7 rfl) rfl ?_
            refine Sl.forkWant rfl rfl (Cm.ofBool (Cm.ld sca4 rfl (by first | exact cellF hg4 rfl | exact cellF hg3 rfl))) rfl (fun h36 => ?_) (fun h36 => ?_)
            ·
              refine Sl.want rfl rfl (Cm.not rfl) rfl ?_
              refine Sl.calm (Cm.pick_t rfl rfl) rfl ?_
              refine Sl.calm (Cm.move rfl) rfl ?_
              refine Sl.skip rfl rfl rfl rfl ?_
              refine Sl.skip rfl rfl rfl rfl ?_
              refine Sl.skip rfl rfl rfl rfl ?_
              refine Sl.calm (Cm.pick_f rfl rfl) rfl ?_
              refine Sl.calm (Cm.move rfl) rfl ?_
              refine Sl.skip rfl rfl rfl rfl ?_
              refine Sl.skip rfl rfl rfl rfl ?_
              refine Sl.skip rfl rfl rfl rfl ?_
              refine Sl.calm (Cm.pick_f rfl rfl) rfl ?_
              refine Sl.calm (Cm.move rfl) rfl ?_
              refine Sl.skip rfl rfl rfl rfl ?_
              refine Sl.skip rfl rfl rfl rfl ?_
              refine Sl.skip rfl rfl rfl rfl ?_
              refine Sl.calm (Cm.pick_f rfl rfl) rfl ?_
              refine Sl.calm (Cm.move rfl) rfl ?_
              refine Sl.skip rfl rfl rfl rfl ?_
              refine Sl.skip rfl rfl rfl rfl ?_
              refine Sl.skip rfl rfl rfl rfl ?_
              refine Sl.calm (Cm.pick_f rfl rfl) rfl ?_
              refine Sl.calm (Cm.assign rfl) rfl ?_
              refine Sl.nil ?_
              refine At.weak [(0, _), (1, _), (2, _), (3, _), (4, _), (5, _), (16, _), (17, _), (19, _), (25, _)] ⟨rfl, rfl, rfl, rfl, rfl, rfl, rfl, rfl, rfl, rfl, trivial⟩ ?_
              refine At.go ?_
              refine Sc.ret ?_
              refine At.ret1 rfl rfl ?_
              first
                | exact no _ (fun hm => by have := hm.1; omega) hF3
                | exact no _ (fun hm => by have := hm.2.2.2.2.2.2.1; omega) hF3
                | exact no _ (fun hm => hm.2.2.2.2.2.1.elim (fun e => by omega) (fun e => h30 (by rw [e]; rfl))) hF3
                | exact no _ (fun hm => by have m := hm.2.2.2.2.2.2.2.1; unfold okT at m; rw [if_neg (by omega)] at m; exact h32 m) hF3
                | exact no _ (fun hm => by have m := hm.2.2.2.2.2.2.2.1; unfold okT at m; rw [if_pos h26] at m; exact h32 ⟨⟨by have := List.length_pos_iff.2 m.1; omega, by have := m.2.1; omega⟩, m.2.2⟩) hF3
                | exact no _ (fun hm => by rw [hm.2.1] at h36; cases h36) hF3
                | exact no _ (fun hm => h42 hm.2.2.1) hF3
                | exact no _ (fun hm => h47 hm.2.2.2.1) hF3
                | exact no _ (fun hm => h52 hm.2.2.2.2.1) hF3
                | refine yes _ ?_ (hF3.trans hf6)
                  have k2 : okT p.2 := by
                    unfold okT
                    first
                      | (rw [if_neg (by omega)]; exact h32)
                      | (rw [if_pos h26]; exact ⟨fun e => by have := h32.1.1; have e0 := congrArg List.length e; have e1 : ([] : List UInt8).length = 0 := rfl; omega, by have := h32.1.2; omega, h32.2⟩)
                  have k1 : p.2.kind = 2 ∨ p.2.data = [] := by
                    first
                      | exact .inl h20
                      | exact .inr (List.length_eq_zero_iff.1 (by omega))
                  exact ⟨fun hm => hm.2.2.2.2.2.2.2.2, fun hx => ⟨by omega, by simpa using h36, h42, h47, h52, k1, by omega, k2, hx⟩⟩
            ·
              refine Sl.want rfl rfl (Cm.not rfl) rfl ?_
              refine Sl.calm (Cm.pick_t rfl rfl) rfl ?_
              refine Sl.calm (Cm.move rfl) rfl ?_
              refine Sl.want rfl rfl (Cm.field fld30_0 rfl) rfl ?_
              refine Sl.want rfl rfl (Cm.ld sca3 rfl (by first | exact cellF hg4 rfl | exact cellF hg3 rfl)) rfl ?_
              refine Sl.callWant rfl rfl fn57 rfl (within_ok _ _ _ _) rfl ?_
              rintro _ w4 ⟨rfl, hw4⟩
              subst w4
              by_cases h42 : 0 ≤ p.2.md ∧ p.2.md ≤ 511
              ·
                rw [decide_eq_true h42]
                refine Sl.calm (Cm.pick_t rfl rfl) rfl ?_
                refine Sl.calm (Cm.move rfl) rfl ?_
                refine Sl.want rfl rfl (Cm.field fld30_1 rfl) rfl ?_
                refine Sl.want rfl rfl (Cm.ld sca3 rfl (by first | exact cellF hg4 rfl | exact cellF hg3 rfl)) rfl ?_
                refine Sl.callWant rfl rfl fn57 rfl (within_ok _ _ _ _) rfl ?_
                rintro _ w4 ⟨rfl, hw4⟩
                subst w4
                by_cases h47 : 0 ≤ p.2.ud ∧ p.2.ud ≤ 65535
                ·
                  rw [decide_eq_true h47]
                  refine Sl.calm (Cm.pick_t rfl rfl) rfl ?_
                  refine Sl.calm (Cm.move rfl) rfl ?_
                  refine Sl.want rfl rfl (Cm.field fld30_2 rfl) rfl ?_
                  refine Sl.want rfl rfl (Cm.ld sca3 rfl (by first | exact cellF hg4 rfl | exact cellF hg3 rfl)) rfl ?_
                  refine Sl.callWant rfl rfl fn57 rfl (within_ok _ _ _ _) rfl ?_
                  rintro _ w4 ⟨rfl, hw4⟩
                  subst w4
                  by_cases h52 : 0 ≤ p.2.gd ∧ p.2.gd ≤ 65535
                  ·
                    rw [decide_eq_true h52]
                    refine Sl.calm (Cm.pick_t rfl rfl) rfl ?_
                    refine Sl.calm (Cm.move rfl) rfl ?_
                    refine Sl.want rfl rfl (Cm.field fld34_6 rfl) rfl ?_
                    refine Sl.want rfl rfl (Cm.ld sca32 rfl (by first | exact cellF hg4 rfl | exact cellF hg3 rfl)) rfl ?_
                    refine Sl.callWant rfl rfl fn58 rfl ((by show Calls _ _ [Value.slice p.1.xs.a p.1.xs.n p.1.xs.c].toArray _ _; rw [hn3.2.2.1]; exact mayX_ok _ _ _ _ (hn3.2.2.xav hsm.2.2))) rfl ?_
                    rintro _ w6 ⟨rfl, hf6⟩
                    refine Sl.calm (Cm.pick_t rfl rfl) rfl ?_
                    refine Sl.calm (Cm.assign rfl) rfl ?_
                    refine Sl.nil ?_
                    refine At.weak [(0, _), (1, _), (2, _), (3, _), (4, _), (5, _), (16, _), (17, _), (19, _), (25, _)] ⟨rfl, rfl, rfl, rfl, rfl, rfl, rfl, rfl, rfl, rfl, trivial⟩ ?_
                    refine At.go ?_
                    refine Sc.ret ?_
                    refine At.ret1 rfl rfl ?_
                    first
                      | exact no _ (fun hm => by have := hm.1; omega) hF3
                      | exact no _ (fun hm => by have := hm.2.2.2.2.2.2.1; omega) hF3
                      | exact no _ (fun hm => hm.2.2.2.2.2.1.elim (fun e => by omega) (fun e => h30 (by rw [e]; rfl))) hF3
                      | exact no _ (fun hm => by have m := hm.2.2.2.2.2.2.2.1; unfold okT at m; rw [if_neg (by omega)] at m; exact h32 m) hF3
                      | exact no _ (fun hm => by have m := hm.2.2.2.2.2.2.2.1; unfold okT at m; rw [if_pos h26] at m; exact h32 ⟨⟨by have := List.length_pos_iff.2 m.1; omega, by have := m.2.1; omega⟩, m.2.2⟩) hF3
                      | exact no _ (fun hm => by rw [hm.2.1] at h36; cases h36) hF3
                      | exact no _ (fun hm => h42 hm.2.2.1) hF3
                      | exact no _ (fun hm => h47 hm.2.2.2.1) hF3
                      | exact no _ (fun hm => h52 hm.2.2.2.2.1) hF3
                      | refine yes _ ?_ (hF3.trans hf6)
                        have k2 : okT p.2 := by
                          unfold okT
                          first
                            | (rw [if_neg (by omega)]; exact h32)
                            | (rw [if_pos h26]; exact ⟨fun e => by have := h32.1.1; have e0 := congrArg List.length e; have e1 : ([] : List UInt8).length = 0 := rfl; omega, by have := h32.1.2; omega, h32.2⟩)
                        have k1 : p.2.kind = 2 ∨ p.2.data = [] := by
                          first
                            | exact .inl h20
                            | exact .inr (List.length_eq_zero_iff.1 (by omega))
                        exact ⟨fun hm => hm.2.2.2.2.2.2.2.2, fun hx => ⟨by omega, by simpa using h36, h42, h47, h52, k1, by omega, k2, hx⟩⟩
                  ·
                    rw [decide_eq_false h52]
                    refine Sl.calm (Cm.pick_t rfl rfl) rfl ?_
                    refine Sl.calm (Cm.move rfl) rfl ?_
                    refine Sl.skip rfl rfl rfl rfl ?_
                    refine Sl.skip rfl rfl rfl rfl ?_
                    refine Sl.skip rfl rfl rfl rfl ?_
                    refine Sl.calm (Cm.pick_f rfl rfl) rfl ?_
                    refine Sl.calm (Cm.assign rfl) rfl ?_
                    refine Sl.nil ?_
                    refine At.weak [(0, _), (1, _), (2, _), (3, _), (4, _), (5, _), (16, _), (17, _), (19, _), (25, _)] ⟨rfl, rfl, rfl, rfl, rfl, rfl, rfl, rfl, rfl, rfl, trivial⟩ ?_
                    refine At.go ?_
                    refine Sc.ret ?_
                    refine At.ret1 rfl rfl ?_
                    first
                      | exact no _ (fun hm => by have := hm.1; omega) hF3
                      | exact no _ (fun hm => by have := hm.2.2.2.2.2.2.1; omega) hF3
                      | exact no _ (fun hm => hm.2.2.2.2.2.1.elim (fun e => by omega) (fun e => h30 (by rw [e]; rfl))) hF3
                      | exact no _ (fun hm => by have m := hm.2.2.2.2.2.2.2.1; unfold okT at m; rw [if_neg (by omega)] at m; exact h32 m) hF3
                      | exact no _ (fun hm => by have m := hm.2.2.2.2.2.2.2.1; unfold okT at m; rw [if_pos h26] at m; exact h32 ⟨⟨by have := List.length_pos_iff.2 m.1; omega, by have := m.2.1; omega⟩, m.2.2⟩) hF3
                      | exact no _ (fun hm => by rw [hm.2.1] at h36; cases h36) hF3
                      | exact no _ (fun hm => h42 hm.2.2.1) hF3
                      | exact no _ (fun hm => h47 hm.2.2.2.1) hF3
                      | exact no _ (fun hm => h52 hm.2.2.2.2.1) hF3
                      | refine yes _ ?_ (hF3.trans hf6)
                        have k2 : okT p.2 := by
                          unfold okT
                          first
                            | (rw [if_neg (by omega)]; exact h32)
                            | (rw [if_pos h26]; exact ⟨fun e => by have := h32.1.1; have e0 := congrArg List.length e; have e1 : ([] : List UInt8).length = 0 := rfl; omega, by have := h32.1.2; omega, h32.2⟩)
                        have k1 : p.2.kind = 2 ∨ p.2.data = [] := by
                          first
                            | exact .inl h20
                            | exact .inr (List.length_eq_zero_iff.1 (by omega))
                        exact ⟨fun hm => hm.2.2.2.2.2.2.2.2, fun hx => ⟨by omega, by simpa using h36, h42, h47, h52, k1, by omega, k2, hx⟩⟩
                ·
                  rw [decide_eq_false h47]
                  refine Sl.calm (Cm.pick_t rfl rfl) rfl ?_
                  refine Sl.calm (Cm.move rfl) rfl ?_
                  refine Sl.skip rfl rfl rfl rfl ?_
                  refine Sl.skip rfl rfl rfl rfl ?_
                  refine Sl.skip rfl rfl rfl rfl ?_
                  refine Sl.calm (Cm.pick_f rfl rfl) rfl ?_
                  refine Sl.calm (Cm.move rfl) rfl ?_
                  refine Sl.skip rfl rfl rfl rfl ?_
                  refine Sl.skip rfl rfl rfl rfl ?_
                  refine Sl.skip rfl rfl rfl rfl ?_
                  refine Sl.calm (Cm.pick_f rfl rfl) rfl ?_
                  refine Sl.calm (Cm.assign rfl) rfl ?_
                  refine Sl.nil ?_
                  refine At.weak [(0, _), (1, _), (2, _), (3, _), (4, _), (5, _), (16, _), (17, _), (19, _), (25, _)] ⟨rfl, rfl, rfl, rfl, rfl, rfl, rfl, rfl, rfl, rfl, trivial⟩ ?_
                  refine At.go ?_
                  refine Sc.ret ?_
                  refine At.ret1 rfl rfl ?_
                  first
                    | exact no _ (fun hm => by have := hm.1; omega) hF3
                    | exact no _ (fun hm => by have := hm.2.2.2.2.2.2.1; omega) hF3
                    | exact no _ (fun hm => hm.2.2.2.2.2.1.elim (fun e => by omega) (fun e => h30 (by rw [e]; rfl))) hF3
                    | exact no _ (fun hm => by have m := hm.2.2.2.2.2.2.2.1; unfold okT at m; rw [if_neg (by omega)] at m; exact h32 m) hF3
                    | exact no _ (fun hm => by have m := hm.2.2.2.2.2.2.2.1; unfold okT at m; rw [if_pos h26] at m; exact h32 ⟨⟨by have := List.length_pos_iff.2 m.1; omega, by have := m.2.1; omega⟩, m.2.2⟩) hF3
                    | exact no _ (fun hm => by rw [hm.2.1] at h36; cases h36) hF3
                    | exact no _ (fun hm => h42 hm.2.2.1) hF3
                    | exact no _ (fun hm => h47 hm.2.2.2.1) hF3
                    | exact no _ (fun hm => h52 hm.2.2.2.2.1) hF3
                    | refine yes _ ?_ (hF3.trans hf6)
                      have k2 : okT p.2 := by
                        unfold okT
                        first
                          | (rw [if_neg (by omega)]; exact h32)
                          | (rw [if_pos h26]; exact ⟨fun e => by have := h32.1.1; have e0 := congrArg List.length e; have e1 : ([] : List UInt8).length = 0 := rfl; omega, by have := h32.1.2; omega, h32.2⟩)
                      have k1 : p.2.kind = 2 ∨ p.2.data = [] := by
                        first
                          | exact .inl h20
                          | exact .inr (List.length_eq_zero_iff.1 (by omega))
                      exact ⟨fun hm => hm.2.2.2.2.2.2.2.2, fun hx => ⟨by omega, by simpa using h36, h42, h47, h52, k1, by omega, k2, hx⟩⟩
              ·
                rw [decide_eq_false h42]
                refine Sl.calm (Cm.pick_t rfl rfl) rfl ?_
                refine Sl.calm (Cm.move rfl) rfl ?_
                refine Sl.skip rfl rfl rfl rfl ?_
                refine Sl.skip rfl rfl rfl rfl ?_
                refine Sl.skip rfl rfl rfl rfl ?_
                refine Sl.calm (Cm.pick_f rfl rfl) rfl ?_
                refine Sl.calm (Cm.move rfl) rfl ?_
                refine Sl.skip rfl rfl rfl rfl ?_
                refine Sl.skip rfl rfl rfl rfl ?_
                refine Sl.skip rfl rfl rfl rfl ?_
                refine Sl.calm (Cm.pick_f rfl rfl) rfl ?_
                refine Sl.calm (Cm.move rfl) rfl ?_
                refine Sl.skip rfl rfl rfl rfl ?_
                refine Sl.skip rfl rfl rfl rfl ?_
                refine Sl.skip rfl rfl rfl rfl ?_
                refine Sl.calm (Cm.pick_f rfl rfl) rfl ?_
                refine Sl.calm (Cm.assign rfl) rfl ?_
                refine Sl.nil ?_
                refine At.weak [(0, _), (1, _), (2, _), (3, _), (4, _), (5, _), (16, _), (17, _), (19, _), (25, _)] ⟨rfl, rfl, rfl, rfl, rfl, rfl, rfl, rfl, rfl, rfl, trivial⟩ ?_
                refine At.go ?_
                refine Sc.ret ?_
                refine At.ret1 rfl rfl ?_
                first
                  | exact no _ (fun hm => by have := hm.1; omega) hF3
                  | exact no _ (fun hm => by have := hm.2.2.2.2.2.2.1; omega) hF3
                  | exact no _ (fun hm => hm.2.2.2.2.2.1.elim (fun e => by omega) (fun e => h30 (by rw [e]; rfl))) hF3
                  | exact no _ (fun hm => by have m := hm.2.2.2.2.2.2.2.1; unfold okT at m; rw [if_neg (by omega)] at m; exact h32 m) hF3
                  | exact no _ (fun hm => by have m := hm.2.2.2.2.2.2.2.1; unfold okT at m; rw [if_pos h26] at m; exact h32 ⟨⟨by have := List.length_pos_iff.2 m.1; omega, by have := m.2.1; omega⟩, m.2.2⟩) hF3
                  | exact no _ (fun hm => by rw [hm.2.1] at h36; cases h36) hF3
                  | exact no _ (fun hm => h42 hm.2.2.1) hF3
                  | exact no _ (fun hm => h47 hm.2.2.2.1) hF3
                  | exact no _ (fun hm => h52 hm.2.2.2.2.1) hF3
                  | refine yes _ ?_ (hF3.trans hf6)
                    have k2 : okT p.2 := by
                      unfold okT
                      first
                        | (rw [if_neg (by omega)]; exact h32)
                        | (rw [if_pos h26]; exact ⟨fun e => by have := h32.1.1; have e0 := congrArg List.length e; have e1 : ([] : List UInt8).length = 0 := rfl; omega, by have := h32.1.2; omega, h32.2⟩)
                    have k1 : p.2.kind = 2 ∨ p.2.data = [] := by
                      first
                        | exact .inl h20
                        | exact .inr (List.length_eq_zero_iff.1 (by omega))
                    exact ⟨fun hm => hm.2.2.2.2.2.2.2.2, fun hx => ⟨by omega, by simpa using h36, h42, h47, h52, k1, by omega, k2, hx⟩⟩
          ·
            rw [decide_eq_false h32]
            refine Sl.calm (Cm.pick_t rfl rfl) rfl ?_
            refine Sl.calm (Cm.move rfl) rfl ?_
            refine Sl.skip rfl rfl rfl rfl ?_
            refine Sl.skip rfl rfl rfl rfl ?_
            refine Sl.skip rfl rfl rfl rfl ?_
            refine Sl.calm (Cm.pick_f rfl rfl) rfl ?_
            refine Sl.calm (Cm.move rfl) rfl ?_
            refine Sl.skip rfl rfl rfl rfl ?_
            refine Sl.skip rfl rfl rfl rfl ?_
            refine Sl.skip rfl rfl rfl rfl ?_
            refine Sl.calm (Cm.pick_f rfl rfl) rfl ?_
            refine Sl.calm (Cm.move rfl) rfl ?_
            refine Sl.skip rfl rfl rfl rfl ?_
            refine Sl.skip rfl rfl rfl rfl ?_
            refine Sl.skip rfl rfl rfl rfl ?_
            refine Sl.calm (Cm.pick_f rfl rfl) rfl ?_
            refine Sl.calm (Cm.move rfl) rfl ?_
            refine Sl.skip rfl rfl rfl rfl ?_
            refine Sl.skip rfl rfl rfl rfl ?_
            refine Sl.skip rfl rfl rfl rfl ?_
            refine Sl.calm (Cm.pick_f rfl rfl) rfl ?_
            refine Sl.calm (Cm.move rfl) rfl ?_
            refine Sl.skip rfl rfl rfl rfl ?_
            refine Sl.skip rfl rfl rfl rfl ?_
            refine Sl.skip rfl rfl rfl rfl ?_
            refine Sl.calm (Cm.pick_f rfl rfl) rfl ?_
            refine Sl.calm (Cm.assign rfl) rfl ?_
            refine Sl.nil ?_
            refine At.weak [(0, _), (1, _), (2, _), (3, _), (4, _), (5, _), (16, _), (17, _), (19, _), (25, _)] ⟨rfl, rfl, rfl, rfl, rfl, rfl, rfl, rfl, rfl, rfl, trivial⟩ ?_
            refine At.go ?_
            refine Sc.ret ?_
            refine At.ret1 rfl rfl ?_
            first
              | exact no _ (fun hm => by have := hm.1; omega) hF3
              | exact no _ (fun hm => by have := hm.2.2.2.2.2.2.1; omega) hF3
              | exact no _ (fun hm => hm.2.2.2.2.2.1.elim (fun e => by omega) (fun e => h30 (by rw [e]; rfl))) hF3
              | exact no _ (fun hm => by have m := hm.2.2.2.2.2.2.2.1; unfold okT at m; rw [if_neg (by omega)] at m; exact h32 m) hF3
              | exact no _ (fun hm => by have m := hm.2.2.2.2.2.2.2.1; unfold okT at m; rw [if_pos h26] at m; exact h32 ⟨⟨by have := List.length_pos_iff.2 m.1; omega, by have := m.2.1; omega⟩, m.2.2⟩) hF3
              | exact no _ (fun hm => by rw [hm.2.1] at h36; cases h36) hF3
              | exact no _ (fun hm => h42 hm.2.2.1) hF3
              | exact no _ (fun hm => h47 hm.2.2.2.1) hF3
              | exact no _ (fun hm => h52 hm.2.2.2.2.1) hF3
              | refine yes _ ?_ (hF3.trans hf6)
                have k2 : okT p.2 := by
                  unfold okT
                  first
                    | (rw [if_neg (by omega)]; exact h32)
                    | (rw [if_pos h26]; exact ⟨fun e => by have := h32.1.1; have e0 := congrArg List.length e; have e1 : ([] : List UInt8).length = 0 := rfl; omega, by have := h32.1.2; omega, h32.2⟩)
                have k1 : p.2.kind = 2 ∨ p.2.data = [] := by
                  first
                    | exact .inl h20
                    | exact .inr (List.length_eq_zero_iff.1 (by omega))
                exact ⟨fun hm => hm.2.2.2.2.2.2.2.2, fun hx => ⟨by omega, by simpa using h36, h42, h47, h52, k1, by omega, k2, hx⟩⟩
        ·
          rw [decide_eq_false h30]
          refine Sl.calm (Cm.move rfl) rfl ?_
          refine Sl.skip rfl rfl rfl rfl ?_
          refine Sl.calm (Cm.pick_f rfl rfl) rfl ?_
          refine Sl.calm (Cm.move rfl) rfl ?_
          refine Sl.skip rfl rfl rfl rfl ?_
          refine Sl.skip rfl rfl rfl rfl ?_
          refine Sl.skip rfl rfl rfl rfl ?_
          refine Sl.calm (Cm.pick_f rfl rfl) rfl ?_
          refine Sl.calm (Cm.move rfl) rfl ?_
          refine Sl.skip rfl rfl rfl rfl ?_
          refine Sl.skip rfl rfl rfl rfl ?_
          refine Sl.skip rfl rfl rfl rfl ?_
          refine Sl.calm (Cm.pick_f rfl rfl) rfl ?_
          refine Sl.calm (Cm.move rfl) rfl ?_
          refine Sl.skip rfl rfl rfl rfl ?_
          refine Sl.skip rfl rfl rfl rfl ?_
          refine Sl.skip rfl rfl rfl rfl ?_
          refine Sl.calm (Cm.pick_f rfl rfl) rfl ?_
          refine Sl.calm (Cm.move rfl) rfl ?_
          refine Sl.skip rfl rfl rfl rfl ?_
          refine Sl.skip rfl rfl rfl rfl ?_
          refine Sl.skip rfl rfl rfl rfl ?_
          refine Sl.calm (Cm.pick_f rfl rfl) rfl ?_
          refine Sl.calm (Cm.move rfl) rfl ?_
          refine Sl.skip rfl rfl rfl rfl ?_
          refine Sl.skip rfl rfl rfl rfl ?_
          refine Sl.skip rfl rfl rfl rfl ?_
          refine Sl.calm (Cm.pick_f rfl rfl) rfl ?_
          refine Sl.calm (Cm.assign rfl) rfl ?_
          refine Sl.nil ?_
          refine At.weak [(0, _), (1, _), (2, _), (3, _), (4, _), (5, _), (16, _), (17, _), (19, _), (25, _)] ⟨rfl, rfl, rfl, rfl, rfl, rfl, rfl, rfl, rfl, rfl, trivial⟩ ?_
          refine At.go ?_
          refine Sc.ret ?_
          refine At.ret1 rfl rfl ?_
          first
            | exact no _ (fun hm => by have := hm.1; omega) hF3
            | exact no _ (fun hm => by have := hm.2.2.2.2.2.2.1; omega) hF3
            | exact no _ (fun hm => hm.2.2.2.2.2.1.elim (fun e => by omega) (fun e => h30 (by rw [e]; rfl))) hF3
            | exact no _ (fun hm => by have m := hm.2.2.2.2.2.2.2.1; unfold okT at m; rw [if_neg (by omega)] at m; exact h32 m) hF3
            | exact no _ (fun hm => by have m := hm.2.2.2.2.2.2.2.1; unfold okT at m; rw [if_pos h26] at m; exact h32 ⟨⟨by have := List.length_pos_iff.2 m.1; omega, by have := m.2.1; omega⟩, m.2.2⟩) hF3
            | exact no _ (fun hm => by rw [hm.2.1] at h36; cases h36) hF3
            | exact no _ (fun hm => h42 hm.2.2.1) hF3
            | exact no _ (fun hm => h47 hm.2.2.2.1) hF3
            | exact no _ (fun hm => h52 hm.2.2.2.2.1) hF3
            | refine yes _ ?_ (hF3.trans hf6)
              have k2 : okT p.2 := by
                unfold okT
                first
                  | (rw [if_neg (by omega)]; exact h32)
                  | (rw [if_pos h26]; exact ⟨fun e => by have := h32.1.1; have e0 := congrArg List.length e; have e1 : ([] : List UInt8).length = 0 := rfl; omega, by have := h32.1.2; omega, h32.2⟩)
              have k1 : p.2.kind = 2 ∨ p.2.data = [] := by
                first
                  | exact .inl h20
                  | exact .inr (List.length_eq_zero_iff.1 (by omega))
              exact ⟨fun hm => hm.2.2.2.2.2.2.2.2, fun hx => ⟨by omega, by simpa using h36, h42, h47, h52, k1, by omega, k2, hx⟩⟩
      ·
        refine Sl.calm (Cm.assign rfl) rfl ?_
        refine Sl.nil ?_
        refine At.weak [(0, _), (1, _), (2, _), (3, _), (4, _), (5, _), (16, _), (17, _), (19, _), (25, _)] ⟨rfl, rfl, rfl, rfl, rfl, rfl, rfl, rfl, rfl, rfl, trivial⟩ ?_
        refine At.go ?_
        refine Sc.cond_f rfl ?_
        refine Sc.seq ?_
        refine Sc.region ?_
        refine Sl.calm (Cm.assign rfl) rfl ?_
        refine Sl.nil ?_
        refine At.go ?_
        refine Sc.ret ?_
        refine At.block_ret ?_
        refine At.then_ret ?_
        refine At.ret1 rfl rfl ?_
        first
          | exact no _ (fun hm => by have := hm.1; omega) hF3
          | exact no _ (fun hm => by have := hm.2.2.2.2.2.2.1; omega) hF3
          | exact no _ (fun hm => hm.2.2.2.2.2.1.elim (fun e => by omega) (fun e => h30 (by rw [e]; rfl))) hF3
          | exact no _ (fun hm => by have m := hm.2.2.2.2.2.2.2.1; unfold okT at m; rw [if_neg (by omega)] at m; exact h32 m) hF3
          | exact no _ (fun hm => by have m := hm.2.2.2.2.2.2.2.1; unfold okT at m; rw [if_pos h26] at m; exact h32 ⟨⟨by have := List.length_pos_iff.2 m.1; omega, by have := m.2.1; omega⟩, m.2.2⟩) hF3
          | exact no _ (fun hm => by rw [hm.2.1] at h36; cases h36) hF3
          | exact no _ (fun hm => h42 hm.2.2.1) hF3
          | exact no _ (fun hm => h47 hm.2.2.2.1) hF3
          | exact no _ (fun hm => h52 hm.2.2.2.2.1) hF3
          | refine yes _ ?_ (hF3.trans hf6)
            have k2 : okT p.2 := by
              unfold okT
              first
                | (rw [if_neg (by omega)]; exact h32)
                | (rw [if_pos h26]; exact ⟨fun e => by have := h32.1.1; have e0 := congrArg List.length e; have e1 : ([] : List UInt8).length = 0 := rfl; omega, by have := h32.1.2; omega, h32.2⟩)
            have k1 : p.2.kind = 2 ∨ p.2.data = [] := by
              first
                | exact .inl h20
                | exact .inr (List.length_eq_zero_iff.1 (by omega))
            exact ⟨fun hm => hm.2.2.2.2.2.2.2.2, fun hx => ⟨by omega, by simpa using h36, h42, h47, h52, k1, by omega, k2, hx⟩⟩

/-! IndexFunc, ContainsFunc -/
def fidx (ps : List (NdH × Nd)) (R : NdH × Nd → Prop) [DecidablePred R] : Int := match ps.findIdx? (fun p => decide (R p)) with | some i => i | none => -1
section
variable {R : NdH × Nd → Prop} [DecidablePred R]
theorem fidx_hit {ps : List (NdH × Nd)} {i : Nat} {p : NdH × Nd} (hp : ps[i]? = some p) (h1 : R p) (h2 : ∀ (j : Nat) (q : NdH × Nd), j < i → ps[j]? = some q → ¬ R q) : fidx ps R = i := by
  have hi := (List.getElem?_eq_some_iff.1 hp).1
  have : ps.findIdx? (fun p => decide (R p)) = some i := by
    rw [List.findIdx?_eq_some_iff_getElem]
    refine ⟨hi, by rw [(List.getElem?_eq_some_iff.1 hp).2]; exact decide_eq_true h1, fun j hj => ?_⟩
    have := h2 j _ hj (List.getElem?_eq_getElem (by omega))
    simpa using this
  unfold fidx; rw [this]
theorem fidx_miss {ps : List (NdH × Nd)} (h : ∀ p ∈ ps, ¬ R p) : fidx ps R = -1 := by
  have : ps.findIdx? (fun p => decide (R p)) = none := by
    rw [List.findIdx?_eq_none_iff]
    intro p hp
    exact decide_eq_false (h p hp)
  unfold fidx; rw [this]
theorem fidx_pos {ps : List (NdH × Nd)} : 0 ≤ fidx ps R ↔ ∃ p ∈ ps, R p := by
  constructor
  · intro h
    apply Classical.byContradiction
    intro hn
    rw [fidx_miss (fun p hp hr => hn ⟨p, hp, hr⟩)] at h
    omega
  · rintro ⟨p, hp, hr⟩
    unfold fidx
    cases hf : ps.findIdx? (fun p => decide (R p)) with
    | some i => exact Int.natCast_nonneg i
    | none =>
      rw [List.findIdx?_eq_none_iff] at hf
      have := hf p hp
      simp [hr] at this
set_option maxHeartbeats 1000000 in
theorem indexFunc_ok (f : FuncId) (cs : List Value) (hf : fnB Try.prog f = true) (lo : Option Addr) (lc : Nat) (ps : List (NdH × Nd)) (W : World) (hv : NodesV D W.heap lo lc ps)
    (hc : ∀ w p, p ∈ ps → Foot nob W w → Calls Try.prog f ([Value.agg (encN p).toArray] ++ cs).toArray w (Ret fun v w' => v = .bool (decide (R p)) ∧ Foot nob w w')) :
    Calls Try.prog 43 [.slice lo ps.length lc, .func (.func f) #[] cs.toArray].toArray W (Ret fun v w' => v = .int .i64 (fidx ps R) ∧ Foot nob W w') := by
  have h63 := hv.1.len63
  refine calls_of_sc 19 [(0, _), (1, _)] Try.func43 rfl rfl rfl (enter_slots ⟨rfl, rfl, trivial⟩) ?_
  refine Sc.seq ?_
  refine Sc.region ?_
  refine Sl.calm (Cm.assign rfl) rfl ?_
  refine Sl.nil ?_
  refine At.go ?_
  refine Sc.seq ?_
  refine Sc.seq ?_
  refine Sc.region ?_
  refine Sl.calm (Cm.move rfl) rfl ?_
  refine Sl.calm (Cm.len sl22 rfl) rfl ?_
  refine Sl.calm (Cm.move rfl) rfl ?_
  refine Sl.nil ?_
  refine At.weak [(0, _), (1, _), (4, _), (7, _), (8, _)] ⟨rfl, rfl, rfl, rfl, rfl, trivial⟩ ?_
  refine At.go ?_
  refine Sc.block ?_
  refine Sc.loop (β := Nat) (fun i => [(0, .slice lo ps.length lc), (1, .func (.func f) #[] cs.toArray), (7, .int .i64 ps.length), (8, .int .i64 i)]) (fun i w => i ≤ ps.length ∧ (∀ (j : Nat) (q : NdH × Nd), j < i → ps[j]? = some q → ¬ R q) ∧ Foot nob W w) (fun i => ps.length - i) 0 ⟨rfl, rfl, rfl, rfl, trivial⟩ ⟨Nat.zero_le _, fun j q hj => by omega, Foot.refl _ _⟩ ?_
  rintro i w2 ⟨hi, hno, hF2⟩
  refine Sc.seq ?_
  refine Sc.region ?_
  refine Sl.fork (Cm.lss rfl rfl) rfl (fun h9 => ?_) (fun h9 => ?_)
  ·
    have hil : i < ps.length := by omega
    obtain ⟨p, hp⟩ : ∃ p, ps[i]? = some p := ⟨_, List.getElem?_eq_getElem hil⟩
    have hpm := List.mem_of_getElem? hp
    have hv2 := hv.grow hF2
    refine Sl.nil ?_
    refine At.go ?_
    refine Sc.seq ?_
    refine Sc.cond_t rfl ?_
    refine Sc.skip ?_
    refine At.go ?_
    refine Sc.seq ?_
    refine Sc.block ?_
    refine Sc.seq ?_
    refine Sc.region ?_
    refine Sl.calm (Cm.move rfl) rfl ?_
    refine Sl.calm (Cm.assign rfl) rfl ?_
    refine Sl.nil ?_
    refine At.weak [(0, _), (1, _), (5, _), (7, _), (8, _), (9, _)] ⟨rfl, rfl, rfl, rfl, rfl, rfl, trivial⟩ ?_
    refine At.go ?_
    refine Sc.seq ?_
    refine Sc.region ?_
    refine Sl.calm (Cm.move rfl) rfl ?_
    refine Sl.calm (Cm.move rfl) rfl ?_
    refine Sl.calm (Cm.move rfl) rfl ?_
    refine Sl.calm (Cm.indexAddr sl22 rfl rfl hv2.1.non (by omega)) rfl ?_
    refine Sl.calm (Cm.ldM (cs := encN p) agg34 rfl (fun j v hj => hv2.1.rowZ i rfl hp j v hj)) rfl ?_
    refine Sl.callC hf rfl rfl (hc w2 p hpm hF2) rfl ?_
    intro v3 w3 hr3
    obtain ⟨rfl, hf3⟩ := hr3
    by_cases h16 : R p
    ·
      rw [decide_eq_true h16]
      refine Sl.nil ?_
      refine At.weak [(0, _), (1, _), (5, _), (7, _), (8, _), (9, _), (16, _)] ⟨rfl, rfl, rfl, rfl, rfl, rfl, rfl, trivial⟩ ?_
      refine At.go ?_
      refine Sc.cond_t rfl ?_
      refine Sc.seq ?_
      refine Sc.region ?_
      refine Sl.calm (Cm.move rfl) rfl ?_
      refine Sl.calm (Cm.assign rfl) rfl ?_
      refine Sl.nil ?_
      refine At.weak [(0, _), (1, _), (4, _), (5, _), (7, _), (8, _), (9, _), (16, _)] ⟨rfl, rfl, rfl, rfl, rfl, rfl, rfl, rfl, trivial⟩ ?_
      refine At.go ?_
      refine Sc.ret ?_
      refine At.block_ret ?_
      refine At.then_ret ?_
      refine At.then_ret ?_
      refine At.block_ret ?_
      refine At.then_ret ?_
      refine At.ret1 rfl rfl ?_
      exact ⟨_, rfl, by rw [fidx_hit hp h16 hno], hF2.trans hf3⟩
    ·
      rw [decide_eq_false h16]
      refine Sl.nil ?_
      refine At.weak [(0, _), (1, _), (5, _), (7, _), (8, _), (9, _), (16, _)] ⟨rfl, rfl, rfl, rfl, rfl, rfl, rfl, trivial⟩ ?_
      refine At.go ?_
      refine Sc.cond_f rfl ?_
      refine Sc.skip ?_
      refine At.block_normal ?_
      refine At.go ?_
      refine Sc.region ?_
      refine Sl.calm (Cm.add64 rfl rfl (by omega)) rfl ?_
      refine Sl.calm (Cm.move rfl) rfl ?_
      refine Sl.nil ?_
      refine At.again (i + 1) ⟨rfl, rfl, rfl, rfl, trivial⟩ ⟨by omega, fun j q hj hq => ?_, hF2.trans hf3⟩ (by show ps.length - (i + 1) < ps.length - i; omega)
      by_cases e : j = i
      · subst e; rw [hp] at hq; cases hq; exact h16
      · exact hno j q (by omega) hq
  ·
    have hie : i = ps.length := by omega
    subst hie
    refine Sl.nil ?_
    refine At.go ?_
    refine Sc.seq ?_
    refine Sc.cond_f rfl ?_
    refine Sc.exit ?_
    refine At.then_exit ?_
    refine At.then_exit ?_
    refine At.block_hit ?_
    refine At.go ?_
    refine Sc.seq ?_
    refine Sc.region ?_
    refine Sl.calm (Cm.assign rfl) rfl ?_
    refine Sl.nil ?_
    refine At.go ?_
    refine Sc.ret ?_
    refine At.ret1 rfl rfl ?_
    refine ⟨_, rfl, ?_, hF2⟩
    rw [fidx_miss (fun q hq => by obtain ⟨j, hj⟩ := List.getElem?_of_mem hq; exact hno j q (List.getElem?_eq_some_iff.1 hj).1 hj)]
theorem containsFunc_ok (f : FuncId) (cs : List Value) (hf : fnB Try.prog f = true) (lo : Option Addr) (lc : Nat) (ps : List (NdH × Nd)) (W : World) (hv : NodesV D W.heap lo lc ps)
    (hc : ∀ w p, p ∈ ps → Foot nob W w → Calls Try.prog f ([Value.agg (encN p).toArray] ++ cs).toArray w (Ret fun v w' => v = .bool (decide (R p)) ∧ Foot nob w w')) :
    Calls Try.prog 29 [.slice lo ps.length lc, .func (.func f) #[] cs.toArray].toArray W (Ret fun v w' => v = .bool (decide (∃ p ∈ ps, R p)) ∧ Foot nob W w') := by
  refine calls_of_sc 9 [(0, _), (1, _)] Try.func29 rfl rfl rfl (enter_slots ⟨rfl, rfl, trivial⟩) ?_
  refine Sc.seq ?_
  refine Sc.region ?_
  refine Sl.calm (Cm.assign rfl) rfl ?_
  refine Sl.nil ?_
  refine At.go ?_
  refine Sc.seq ?_
  refine Sc.region ?_
  refine Sl.calm (Cm.move rfl) rfl ?_
  refine Sl.calm (Cm.move rfl) rfl ?_
  refine Sl.call fn43 rfl (indexFunc_ok (R := R) f cs hf lo lc ps W hv hc) rfl ?_
  rintro _ w2 ⟨rfl, hf2⟩
  refine Sl.calm (Cm.geq rfl rfl) rfl ?_
  refine Sl.calm (Cm.assign rfl) rfl ?_
  refine Sl.nil ?_
  refine At.weak [(0, _), (1, _), (4, _)] ⟨rfl, rfl, rfl, trivial⟩ ?_
  refine At.go ?_
  refine Sc.ret ?_
  refine At.ret1 rfl rfl ?_
  exact ⟨_, rfl, congrArg _ (decide_eq_decide.2 fidx_pos), hf2⟩
end
theorem check1_ok (p : NdH × Nd) (W : World) (hn : NdV D W.heap p) (hsm : smN p.2) :
    Calls Try.prog 30 [.agg (encN p).toArray].toArray W (Ret fun v w' => v = .bool (decide (¬ mayN p.2)) ∧ Foot nob W w') := by
  refine calls_of_sc 6 [(0, _)] Try.func30 rfl rfl rfl (enter_slots ⟨rfl, trivial⟩) ?_
  refine Sc.seq ?_
  refine Sc.region ?_
  refine Sl.box rfl rfl ?_
  intro w1 hg1 hs1 hf1
  obtain ⟨g, hg⟩ : ∃ g, g = W.heap.size := ⟨_, rfl⟩
  rw [← hg] at hg1 hs1 ⊢
  replace hg1 : w1.heap[g]? = some (.cells (encN p).toArray 34 (0, 0)) := hg1
  refine Sl.calm (Cm.assign rfl) rfl ?_
  refine Sl.nil ?_
  refine At.go ?_
  refine Sc.seq ?_
  refine Sc.region ?_
  refine Sl.calm (Cm.ldM (cs := encN p) agg34 rfl (cellsF hg1 0 rfl)) rfl ?_
  refine Sl.call fn31 rfl (may_ok p w1 (hn.grow hf1) hsm) rfl ?_
  rintro _ w2 ⟨rfl, hf2⟩
  by_cases h4 : mayN p.2
  ·
    rw [decide_eq_true h4]
    refine Sl.calm (Cm.not rfl) rfl ?_
    refine Sl.calm (Cm.assign rfl) rfl ?_
    refine Sl.nil ?_
    refine At.weak [(0, _), (1, _), (2, _)] ⟨rfl, rfl, rfl, trivial⟩ ?_
    refine At.go ?_
    refine Sc.ret ?_
    refine At.ret1 rfl rfl ?_
    first
      | exact ⟨_, rfl, (congrArg Value.bool (decide_eq_false (p := ¬ mayN p.2) (fun h => h h4))).symm, hf1.trans hf2⟩
      | exact ⟨_, rfl, (congrArg Value.bool (decide_eq_true (p := ¬ mayN p.2) h4)).symm, hf1.trans hf2⟩
  ·
    rw [decide_eq_false h4]
    refine Sl.calm (Cm.not rfl) rfl ?_
    refine Sl.calm (Cm.assign rfl) rfl ?_
    refine Sl.nil ?_
    refine At.weak [(0, _), (1, _), (2, _)] ⟨rfl, rfl, rfl, trivial⟩ ?_
    refine At.go ?_
    refine Sc.ret ?_
    refine At.ret1 rfl rfl ?_
    first
      | exact ⟨_, rfl, (congrArg Value.bool (decide_eq_false (p := ¬ mayN p.2) (fun h => h h4))).symm, hf1.trans hf2⟩
      | exact ⟨_, rfl, (congrArg Value.bool (decide_eq_true (p := ¬ mayN p.2) h4)).symm, hf1.trans hf2⟩
end Go.Proofs.Ytpnfjfbfgaiolaa
