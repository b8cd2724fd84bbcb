/- data: holes, rows of one byte. No condition beyond the bounds that each states. -/
import Derived.Test.YtpnfjfbfgaiolaaDoorDaAk
namespace Go.Proofs.YtpnfjfbfgaiolaaDoor
open Go Go.RowKit
set_option linter.unusedVariables false

theorem holeB_nil : holeB [] := fun i h => absurd h (by simp)
set_option maxHeartbeats 1000000 in
theorem trimL_ok (o : Option Addr) (c : Nat) (b : List UInt8) (W : World) (hv : Vw b8 W.heap o c b) :
    Calls Tryd.prog 33 [.slice o b.length c, .string (bs [0])].toArray W (Ret fun v w' => ∃ o' n c', v = .slice o' n c' ∧ (n = 0 ↔ holeB b) ∧ w' = W) := by
  have hlen := hv.len63
  refine calls_of_sc 36 [(0, _), (1, _)] Tryd.func33 rfl rfl rfl (enter_slots ⟨rfl, rfl, trivial⟩) ?_
  refine Sc.seq ?_
  refine Sc.region ?_
  refine Sl.calm (Cm.assign rfl) rfl ?_
  refine Sl.nil ?_
  refine At.go ?_
  refine Sc.seq ?_
  refine Sc.seq ?_
  refine Sc.region ?_
  refine Sl.calm (Cm.move rfl) rfl ?_
  refine Sl.calm (Cm.len sl23 rfl) rfl ?_
  refine Sl.fork (Cm.eql rfl rfl) rfl (fun h9 => ?_) (fun h9 => ?_)
  ·
    have h0 : b = [] := List.length_eq_zero_iff.1 (by omega)
    refine Sl.nil ?_
    refine At.weak [(0, _), (1, _), (4, _), (9, _)] ⟨rfl, rfl, rfl, rfl, trivial⟩ ?_
    refine At.go ?_
    refine Sc.cond_t rfl ?_
    refine Sc.seq ?_
    refine Sc.region ?_
    refine Sl.calm (Cm.assign rfl) rfl ?_
    refine Sl.nil ?_
    refine At.go ?_
    refine Sc.ret ?_
    refine At.then_ret ?_
    refine At.ret1 rfl rfl ?_
    exact ⟨_, rfl, none, 0, 0, rfl, ⟨fun _ => by rw [h0]; exact holeB_nil, fun _ => rfl⟩, rfl⟩
  ·
    refine Sl.nil ?_
    refine At.weak [(0, _), (1, _), (4, _), (9, _)] ⟨rfl, rfl, rfl, rfl, trivial⟩ ?_
    refine At.go ?_
    refine Sc.cond_f rfl ?_
    refine Sc.skip ?_
    refine At.go ?_
    refine Sc.seq ?_
    refine Sc.seq ?_
    refine Sc.region ?_
    refine Sl.calm (Cm.move rfl) rfl ?_
    refine Sl.calm (Cm.no (Cm.eqlBs (a := [0]) (b := []) rfl rfl) (by decide)) rfl ?_
    refine Sl.nil ?_
    refine At.weak [(0, _), (1, _), (4, _), (9, _), (11, _)] ⟨rfl, rfl, rfl, rfl, rfl, trivial⟩ ?_
    refine At.go ?_
    refine Sc.cond_f rfl ?_
    refine Sc.skip ?_
    refine At.go ?_
    refine Sc.seq ?_
    refine Sc.seq ?_
    refine Sc.region ?_
    refine Sl.calm (Cm.move rfl) rfl ?_
    refine Sl.calm (Cm.lenBs ty9 rfl) rfl ?_
    refine Sl.calm (Cm.yes (Cm.eql rfl rfl) (by decide)) rfl ?_
    refine Sl.calm (Cm.move rfl) rfl ?_
    refine Sl.want rfl rfl (Cm.move rfl) rfl ?_
    refine Sl.want rfl rfl (Cm.idxS ty9 rfl rfl (by decide)) rfl ?_
    refine Sl.want rfl rfl (Cm.yes (Cm.lss rfl rfl) (by decide)) rfl ?_
    refine Sl.calm (Cm.pick_t rfl rfl) rfl ?_
    refine Sl.nil ?_
    refine At.weak [(0, _), (1, _), (4, _), (9, _), (11, _), (20, _)] ⟨rfl, rfl, rfl, rfl, rfl, rfl, trivial⟩ ?_
    refine At.go ?_
    refine Sc.cond_t rfl ?_
    refine Sc.seq ?_
    refine Sc.region ?_
    refine Sl.calm (Cm.move rfl) rfl ?_
    refine Sl.calm (Cm.move rfl) rfl ?_
    refine Sl.calm (Cm.idxS ty9 rfl rfl (by decide)) rfl ?_
    refine Sl.call fn52 rfl (trimz_ok o c b W hv) rfl ?_
    rintro _ w1 ⟨o1, n1, c1, rfl, hn, hw1⟩
    subst hw1
    refine Sl.calm (Cm.assign rfl) rfl ?_
    refine Sl.nil ?_
    refine At.weak [(0, _), (1, _), (4, _), (9, _), (11, _), (20, _)] ⟨rfl, rfl, rfl, rfl, rfl, rfl, trivial⟩ ?_
    refine At.go ?_
    refine Sc.ret ?_
    refine At.then_ret ?_
    refine At.ret1 rfl rfl ?_
    exact ⟨_, rfl, _, _, _, rfl, hn, rfl⟩
theorem hole_ok (o : Option Addr) (c : Nat) (b : List UInt8) (W : World) (hv : Vw b8 W.heap o c b) :
    Calls Tryd.prog 23 [.slice o b.length c].toArray W (Ret fun v w' => v = .bool (decide (holeB b)) ∧ w' = W) := by
  refine calls_of_sc 7 [(0, _)] Tryd.func23 rfl rfl rfl (enter_slots ⟨rfl, trivial⟩) ?_
  refine Sc.seq ?_
  refine Sc.region ?_
  refine Sl.calm (Cm.assign rfl) rfl ?_
  refine Sl.nil ?_
  refine At.go ?_
  refine Sc.seq ?_
  refine Sc.region ?_
  refine Sl.calm (Cm.move rfl) rfl ?_
  refine Sl.call fn33 rfl (trimL_ok o c b W hv) rfl ?_
  rintro _ w1 ⟨o1, n1, c1, rfl, hn, hw1⟩
  subst hw1
  refine Sl.calm (Cm.len sl23 rfl) rfl ?_
  refine Sl.fork (Cm.eql rfl rfl) rfl (fun h6 => ?_) (fun h6 => ?_)
  ·
    refine Sl.calm (Cm.assign rfl) rfl ?_
    refine Sl.nil ?_
    refine At.weak [(0, _), (2, _)] ⟨rfl, rfl, trivial⟩ ?_
    refine At.go ?_
    refine Sc.ret ?_
    refine At.ret1 rfl rfl ?_
    refine ⟨_, rfl, ?_, rfl⟩
    congr 1
    first
      | exact (decide_eq_true (hn.1 (by omega))).symm
      | exact (decide_eq_false (fun h => h6 (by have := hn.2 h; omega))).symm
  ·
    refine Sl.calm (Cm.assign rfl) rfl ?_
    refine Sl.nil ?_
    refine At.weak [(0, _), (2, _)] ⟨rfl, rfl, trivial⟩ ?_
    refine At.go ?_
    refine Sc.ret ?_
    refine At.ret1 rfl rfl ?_
    refine ⟨_, rfl, ?_, rfl⟩
    congr 1
    first
      | exact (decide_eq_true (hn.1 (by omega))).symm
      | exact (decide_eq_false (fun h => h6 (by have := hn.2 h; omega))).symm
set_option maxHeartbeats 1000000 in
theorem rhole_ok (o : Option Addr) (c : Nat) (b : List UInt8) (W : World) (hv : Vw b8 W.heap o c b) :
    Calls Tryd.prog 27 [.slice o b.length c].toArray W (Ret fun v w' => v = .bool (decide (holeB b)) ∧ w' = W) := by
  have hlen := hv.len63
  refine calls_of_sc 15 [(0, _)] Tryd.func27 rfl rfl rfl (enter_slots ⟨rfl, trivial⟩) ?_
  refine Sc.seq ?_
  refine Sc.region ?_
  refine Sl.calm (Cm.assign rfl) rfl ?_
  refine Sl.nil ?_
  refine At.go ?_
  refine Sc.seq ?_
  refine Sc.seq ?_
  refine Sc.region ?_
  refine Sl.calm (Cm.assign rfl) rfl ?_
  refine Sl.nil ?_
  refine At.go ?_
  refine Sc.block ?_
  refine Sc.loop (β := Nat) (fun i => [(0, .slice o b.length c), (3, .int .i64 i)]) (fun i w => i ≤ b.length ∧ (∀ j, j < i → b.getD j 0 = 0) ∧ w = W) (fun i => b.length - i) 0 ⟨rfl, rfl, trivial⟩ ⟨Nat.zero_le _, by intro j hj; omega, rfl⟩ ?_
  rintro i w2 ⟨hi, hz, hw2⟩
  subst hw2
  refine Sc.seq ?_
  refine Sc.seq ?_
  refine Sc.region ?_
  refine Sl.calm (Cm.move rfl) rfl ?_
  refine Sl.calm (Cm.move rfl) rfl ?_
  refine Sl.calm (Cm.len sl23 rfl) rfl ?_
  refine Sl.fork (Cm.lss rfl rfl) rfl (fun h7 => ?_) (fun h7 => ?_)
  ·
    refine Sl.nil ?_
    refine At.weak [(0, _), (3, _), (7, _)] ⟨rfl, rfl, rfl, trivial⟩ ?_
    refine At.go ?_
    refine Sc.cond_t rfl ?_
    refine Sc.skip ?_
    refine At.go ?_
    refine Sc.seq ?_
    refine Sc.block ?_
    refine Sc.seq ?_
    refine Sc.region ?_
    refine Sl.calm (Cm.move rfl) rfl ?_
    refine Sl.calm (Cm.move rfl) rfl ?_
    refine Sl.calm (Cm.indexAddr1 sl23 rfl rfl hv.non (by omega)) rfl ?_
    refine Sl.calm (Cm.ld sca5 rfl (hv.gz 0 i rfl (by omega))) rfl ?_
    refine Sl.fork (Cm.neq rfl rfl) rfl (fun h14 => ?_) (fun h14 => ?_)
    ·
      have hno : ¬ holeB b := fun h => h14 (by rw [h i (by omega)]; rfl)
      refine Sl.nil ?_
      refine At.weak [(0, _), (3, _), (7, _), (14, _)] ⟨rfl, rfl, rfl, rfl, trivial⟩ ?_
      refine At.go ?_
      refine Sc.cond_t rfl ?_
      refine Sc.seq ?_
      refine Sc.region ?_
      refine Sl.calm (Cm.assign rfl) rfl ?_
      refine Sl.nil ?_
      refine At.go ?_
      refine Sc.ret ?_
      refine At.block_ret ?_
      refine At.then_ret ?_
      refine At.then_ret ?_
      refine At.block_ret ?_
      refine At.then_ret ?_
      refine At.ret1 rfl rfl ?_
      exact ⟨_, rfl, congrArg Value.bool (decide_eq_false hno).symm, rfl⟩
    ·
      have h14 : ((b.getD i 0).toNat : Int) = 0 := Decidable.not_not.1 h14
      have h0 : b.getD i 0 = 0 := UInt8.toNat_inj.1 (by show _ = 0; omega)
      refine Sl.nil ?_
      refine At.weak [(0, _), (3, _), (7, _), (14, _)] ⟨rfl, rfl, rfl, rfl, trivial⟩ ?_
      refine At.go ?_
      refine Sc.cond_f rfl ?_
      refine Sc.skip ?_
      refine At.block_normal ?_
      refine At.go ?_
      refine Sc.region ?_
      refine Sl.calm (Cm.move rfl) rfl ?_
      refine Sl.calm (Cm.add64 rfl rfl (by omega)) rfl ?_
      refine Sl.calm (Cm.assign rfl) rfl ?_
      refine Sl.nil ?_
      refine At.again (i + 1) ⟨rfl, rfl, trivial⟩ ⟨by omega, ?_, rfl⟩ (by show b.length - (i + 1) < b.length - i; omega)
      intro j hj
      by_cases hji : j = i
      · rw [hji]; exact h0
      · exact hz j (by omega)
  ·
    refine Sl.nil ?_
    refine At.weak [(0, _), (3, _), (7, _)] ⟨rfl, rfl, rfl, trivial⟩ ?_
    refine At.go ?_
    refine Sc.cond_f rfl ?_
    refine Sc.exit ?_
    refine At.then_exit ?_
    refine At.then_exit ?_
    refine At.block_hit ?_
    refine At.go ?_
    refine Sc.seq ?_
    refine Sc.region ?_
    refine Sl.calm (Cm.assign rfl) rfl ?_
    refine Sl.nil ?_
    refine At.go ?_
    refine Sc.ret ?_
    refine At.ret1 rfl rfl ?_
    exact ⟨_, rfl, congrArg Value.bool (decide_eq_true (fun j hj => hz j (by omega))).symm, rfl⟩
theorem lik_set (x : UInt8) {i n : Nat} (h : i < n) : (List.replicate i x ++ List.replicate (n - i) (0 : UInt8)).set i x = List.replicate (i + 1) x ++ List.replicate (n - (i + 1)) 0 := by
  rw [List.set_append_right _ _ (by simp), List.length_replicate, Nat.sub_self, show n - i = (n - (i + 1)) + 1 by omega, List.replicate_succ, List.set_cons_zero, List.replicate_succ', List.append_assoc]; rfl
set_option maxHeartbeats 1000000 in
theorem dlike_ok (x : UInt8) (n : Nat) (W : World) (hn : n ≤ 1048576) :
    Calls Tryd.prog 21 [.int .u8 x.toNat, .int .i64 n].toArray W (Ret fun v w' => ∃ o c, v = .slice o n c ∧ Own b8 5 w'.heap o c (List.replicate n x) ∧ Fr W.heap.size o ∧ Foot nob W w') := by
  refine calls_of_sc 19 [(0, _), (1, _)] Tryd.func21 rfl rfl rfl (enter_slots ⟨rfl, rfl, trivial⟩) ?_
  refine Sc.seq ?_
  refine Sc.region ?_
  refine Sl.calm (Cm.assign rfl) rfl ?_
  refine Sl.nil ?_
  refine At.go ?_
  refine Sc.seq ?_
  refine Sc.region ?_
  refine Sl.calm (Cm.move rfl) rfl ?_
  refine Sl.make b8 (0 : UInt8) sl23 z5 rfl rfl rfl (by omega) (by omega) (by omega) (by omega) rfl ?_
  intro w1 ho1 hs1 hf1
  have hkn : ((n : Nat) : Int).toNat = n := rfl
  rw [hkn] at ho1 ⊢
  obtain ⟨o1, ho⟩ : ∃ o, o = some (⟨W.heap.size, 0, none⟩ : Addr) := ⟨_, rfl⟩
  rw [← ho] at ho1 ⊢
  refine Sl.calm (Cm.assign rfl) rfl ?_
  refine Sl.nil ?_
  refine At.weak [(0, _), (1, _), (4, _), (5, _)] ⟨rfl, rfl, rfl, rfl, trivial⟩ ?_
  refine At.go ?_
  refine Sc.seq ?_
  refine Sc.seq ?_
  refine Sc.region ?_
  refine Sl.calm (Cm.assign rfl) rfl ?_
  refine Sl.nil ?_
  refine At.go ?_
  refine Sc.block ?_
  refine Sc.loop (β := Nat) (fun i => [(0, .int .u8 x.toNat), (1, .int .i64 n), (5, .slice o1 n n), (6, .int .i64 i)]) (fun i w => i ≤ n ∧ Own b8 5 w.heap o1 n (List.replicate i x ++ List.replicate (n - i) (0 : UInt8)) ∧ Foot nob W w) (fun i => n - i) 0 ⟨rfl, rfl, rfl, rfl, trivial⟩ ⟨Nat.zero_le _, by simpa using ho1, hf1⟩ ?_
  rintro i w2 ⟨hi, ho2, hF2⟩
  refine Sc.seq ?_
  refine Sc.seq ?_
  refine Sc.region ?_
  refine Sl.calm (Cm.move rfl) rfl ?_
  refine Sl.calm (Cm.move rfl) rfl ?_
  refine Sl.fork (Cm.lss rfl rfl) rfl (fun h11 => ?_) (fun h11 => ?_)
  ·
    refine Sl.nil ?_
    refine At.weak [(0, _), (1, _), (5, _), (6, _), (11, _)] ⟨rfl, rfl, rfl, rfl, rfl, trivial⟩ ?_
    refine At.go ?_
    refine Sc.cond_t rfl ?_
    refine Sc.skip ?_
    refine At.go ?_
    refine Sc.seq ?_
    refine Sc.block ?_
    refine Sc.region ?_
    refine Sl.calm (Cm.move rfl) rfl ?_
    refine Sl.calm (Cm.move rfl) rfl ?_
    refine Sl.calm (Cm.move rfl) rfl ?_
    refine Sl.calm (Cm.indexAddr1 sl23 rfl rfl (fun _ => ho2.vw.non (by simp; omega)) (by omega)) rfl ?_
    have hil : (List.replicate i x ++ List.replicate (n - i) (0 : UInt8)).length = n := by simp; omega
    refine Sl.storeRow b8_one sca5 (z := (i : Int)) (u := x) rfl rfl ho2 (by rw [hil]; omega) ?_
    intro w3 ho3 hs3 hf3
    have hin : ((i : Nat) : Int).toNat = i := rfl
    rw [hin, lik_set x (by omega)] at ho3
    refine Sl.nil ?_
    refine At.block_normal ?_
    refine At.weak [(0, _), (1, _), (5, _), (6, _), (11, _)] ⟨rfl, rfl, rfl, rfl, rfl, trivial⟩ ?_
    refine At.go ?_
    refine Sc.region ?_
    refine Sl.calm (Cm.move rfl) rfl ?_
    refine Sl.calm (Cm.add64 rfl rfl (by omega)) rfl ?_
    refine Sl.calm (Cm.assign rfl) rfl ?_
    refine Sl.nil ?_
    refine At.again (i + 1) ⟨rfl, rfl, rfl, rfl, trivial⟩ ⟨by omega, ho3, hF2.trans_to hf3 (fun k ⟨a, ha, e⟩ => .inr (by rw [ho] at ha; cases ha; exact Nat.le_of_eq e))⟩ (by show n - (i + 1) < n - i; omega)
  ·
    refine Sl.nil ?_
    refine At.weak [(0, _), (1, _), (5, _), (6, _), (11, _)] ⟨rfl, rfl, rfl, rfl, rfl, trivial⟩ ?_
    refine At.go ?_
    refine Sc.cond_f rfl ?_
    refine Sc.exit ?_
    refine At.then_exit ?_
    refine At.then_exit ?_
    refine At.block_hit ?_
    refine At.go ?_
    refine Sc.seq ?_
    refine Sc.region ?_
    refine Sl.calm (Cm.move rfl) rfl ?_
    refine Sl.calm (Cm.assign rfl) rfl ?_
    refine Sl.nil ?_
    refine At.weak [(0, _), (1, _), (4, _), (5, _), (6, _), (11, _)] ⟨rfl, rfl, rfl, rfl, rfl, rfl, trivial⟩ ?_
    refine At.go ?_
    refine Sc.ret ?_
    refine At.ret1 rfl rfl ?_
    have e : i = n := by omega
    rw [e, Nat.sub_self, List.replicate_zero, List.append_nil] at ho2
    exact ⟨_, rfl, o1, n, rfl, ho2, (fun a ha => by rw [ho] at ha; cases ha; exact Nat.le_refl _), hF2⟩
end Go.Proofs.YtpnfjfbfgaiolaaDoor
