/- data: Read, Walk, the program's and the reference's. No condition beyond the bounds that each states. -/
import Derived.Test.YtpnfjfbfgaiolaaDoorDaQk
import Derived.Test.YtpnfjfbfgaiolaaDoorKC
namespace Go.Proofs.YtpnfjfbfgaiolaaDoor
open Go Go.RowKit
set_option linter.unusedVariables false

def WkP (W : World) (r : Int × Int) : Value → World → Prop := fun v w' => v = .tuple #[.int .i64 r.1, .int .i64 r.2] ∧ Foot nob W w'
set_option maxHeartbeats 2000000 in
theorem dwalk_ok (io : Option Addr) (ic : Nat) (im : List UInt8) (start size e : Int) (W : World) (hv : Vw b8 W.heap io ic im) (him : im.length ≤ 1099511627776) (hst : start ≤ 9223372036854775807) :
    Calls Tryd.prog 19 [.slice io im.length ic, .int .i64 start, .int .i64 size, .int .i64 e].toArray W (Ret (WkP W (walkD im start size e))) := by
  refine calls_of_sc 38 [(0, _), (1, _), (2, _), (3, _)] Tryd.func19 rfl rfl rfl (enter_slots ⟨rfl, rfl, rfl, rfl, trivial⟩) ?_
  refine Sc.seq ?_
  refine Sc.region ?_
  refine Sl.calm (Cm.assign rfl) rfl ?_
  refine Sl.calm (Cm.assign rfl) rfl ?_
  refine Sl.nil ?_
  refine At.go ?_
  refine Sc.seq ?_
  refine Sc.seq ?_
  refine Sc.region ?_
  refine Sl.calm (Cm.move rfl) rfl ?_
  refine Sl.fork (Cm.lss rfl rfl) rfl (fun h13 => ?_) (fun h13 => ?_)
  ·
    have hR := walkD_bad (im := im) (start := start) (e := e) (.inl h13)
    refine Sl.calm (Cm.move rfl) rfl ?_
    refine Sl.skip rfl rfl rfl rfl ?_
    refine Sl.skip rfl rfl rfl rfl ?_
    refine Sl.calm (Cm.pick_t rfl rfl) rfl ?_
    refine Sl.nil ?_
    refine At.weak [(0, _), (1, _), (2, _), (3, _), (8, _), (9, _), (17, _)] ⟨rfl, rfl, rfl, rfl, rfl, rfl, rfl, trivial⟩ ?_
    refine At.go ?_
    refine Sc.cond_t rfl ?_
    refine Sc.seq ?_
    refine Sc.region ?_
    refine Sl.calm (Cm.assign rfl) rfl ?_
    refine Sl.calm (Cm.assign rfl) rfl ?_
    refine Sl.nil ?_
    refine At.go ?_
    refine Sc.ret ?_
    refine At.then_ret ?_
    refine At.ret2 rfl rfl rfl ?_
    rw [hR]
    exact ⟨_, rfl, rfl, Foot.refl _ _⟩
  ·
    refine Sl.calm (Cm.move rfl) rfl ?_
    refine Sl.want rfl rfl (Cm.move rfl) rfl ?_
    refine Sl.forkWant rfl rfl (Cm.gtr rfl rfl) rfl (fun h16 => ?_) (fun h16 => ?_)
    ·
      have hR := walkD_bad (im := im) (start := start) (e := e) (.inr (show (4096 : Int) < size from h16))
      refine Sl.calm (Cm.pick_f rfl rfl) rfl ?_
      refine Sl.nil ?_
      refine At.weak [(0, _), (1, _), (2, _), (3, _), (8, _), (9, _), (17, _)] ⟨rfl, rfl, rfl, rfl, rfl, rfl, rfl, trivial⟩ ?_
      refine At.go ?_
      refine Sc.cond_t rfl ?_
      refine Sc.seq ?_
      refine Sc.region ?_
      refine Sl.calm (Cm.assign rfl) rfl ?_
      refine Sl.calm (Cm.assign rfl) rfl ?_
      refine Sl.nil ?_
      refine At.go ?_
      refine Sc.ret ?_
      refine At.then_ret ?_
      refine At.ret2 rfl rfl rfl ?_
      rw [hR]
      exact ⟨_, rfl, rfl, Foot.refl _ _⟩
    ·
      obtain ⟨S, rfl⟩ := Int.eq_ofNat_of_zero_le (show 0 ≤ size by omega)
      have hR := walkD_go (im := im) (start := start) (e := e) (size := S) (by omega)
      refine Sl.calm (Cm.pick_f rfl rfl) rfl ?_
      refine Sl.nil ?_
      refine At.weak [(0, _), (1, _), (2, _), (3, _), (8, _), (9, _), (17, _)] ⟨rfl, rfl, rfl, rfl, rfl, rfl, rfl, trivial⟩ ?_
      refine At.go ?_
      refine Sc.cond_f rfl ?_
      refine Sc.skip ?_
      refine At.go ?_
      refine Sc.seq ?_
      refine Sc.seq ?_
      refine Sc.region ?_
      refine Sl.calm (Cm.move rfl) rfl ?_
      refine Sl.calm (Cm.ofEq (u := .int .i64 ((S / 128 : Nat) : Int)) (Cm.quo64 rfl rfl (by omega) (by decide)) (by congr 1)) rfl ?_
      refine Sl.calm (Cm.move rfl) rfl ?_
      refine Sl.nil ?_
      refine At.weak [(0, _), (1, _), (2, _), (3, _), (8, _), (9, _), (17, _), (19, _), (20, _)] ⟨rfl, rfl, rfl, rfl, rfl, rfl, rfl, rfl, rfl, trivial⟩ ?_
      refine At.go ?_
      refine Sc.block ?_
      refine Sc.loop (β := Nat × Int) (fun ⟨i, a⟩ => [(0, .slice io im.length ic), (1, .int .i64 a), (3, .int .i64 e), (19, .int .i64 ((S / 128 : Nat) : Int)), (20, .int .i64 i)]) (fun ⟨i, a⟩ w => i ≤ S / 128 ∧ a ≤ 9223372036854775807 ∧ wkGo im e (S / 128 - i) a = walkD im start S e ∧ Foot nob W w) (fun ⟨i, a⟩ => S / 128 - i) ⟨0, start⟩ ⟨rfl, rfl, rfl, rfl, rfl, trivial⟩ ⟨Nat.zero_le _, hst, hR.symm, Foot.refl _ _⟩ ?_
      rintro ⟨i, a⟩ w2 ⟨hi, ha, hgo, hF2⟩
      refine Sc.seq ?_
      refine Sc.region ?_
      refine Sl.fork (Cm.lss rfl rfl) rfl (fun h21 => ?_) (fun h21 => ?_)
      ·
        obtain ⟨k, hk⟩ : ∃ k, S / 128 - i = k + 1 := ⟨S / 128 - i - 1, by omega⟩
        rw [hk] at hgo
        refine Sl.nil ?_
        refine At.go ?_
        refine Sc.seq ?_
        refine Sc.cond_t rfl ?_
        refine Sc.skip ?_
        refine At.go ?_
        refine Sc.seq ?_
        refine Sc.block ?_
        refine Sc.seq ?_
        refine Sc.region ?_
        refine Sl.calm (Cm.move rfl) rfl ?_
        refine Sl.calm (Cm.move rfl) rfl ?_
        refine Sl.call fn28 rfl (fskip_ok io ic im a w2 (hv.grow hF2) him (by omega)) rfl ?_
        rintro _ w3 ⟨rfl, hf3⟩
        have hbd := skipS_bd im a
        refine Sl.calm (Cm.move rfl) rfl ?_
        refine Sl.calm (Cm.extract rfl rfl) rfl ?_
        refine Sl.calm (Cm.extract rfl rfl) rfl ?_
        refine Sl.calm (Cm.assign rfl) rfl ?_
        refine Sl.calm (Cm.assign rfl) rfl ?_
        refine Sl.nil ?_
        refine At.weak [(0, _), (1, _), (3, _), (10, _), (11, _), (19, _), (20, _), (21, _)] ⟨rfl, rfl, rfl, rfl, rfl, rfl, rfl, rfl, trivial⟩ ?_
        refine At.go ?_
        refine Sc.seq ?_
        refine Sc.seq ?_
        refine Sc.region ?_
        refine Sl.calm (Cm.move rfl) rfl ?_
        refine Sl.fork (Cm.neq rfl rfl) rfl (fun h29 => ?_) (fun h29 => ?_)
        ·
          rw [wkGo_bad (.inl h29)] at hgo
          refine Sl.calm (Cm.move rfl) rfl ?_
          refine Sl.skip rfl rfl rfl rfl ?_
          refine Sl.skip rfl rfl rfl rfl ?_
          refine Sl.skip rfl rfl rfl rfl ?_
          refine Sl.calm (Cm.pick_t rfl rfl) rfl ?_
          refine Sl.nil ?_
          refine At.weak [(0, _), (1, _), (3, _), (10, _), (11, _), (19, _), (20, _), (21, _), (34, _)] ⟨rfl, rfl, rfl, rfl, rfl, rfl, rfl, rfl, rfl, trivial⟩ ?_
          refine At.go ?_
          refine Sc.cond_t rfl ?_
          refine Sc.seq ?_
          refine Sc.region ?_
          refine Sl.calm (Cm.assign rfl) rfl ?_
          refine Sl.calm (Cm.assign rfl) rfl ?_
          refine Sl.nil ?_
          refine At.go ?_
          refine Sc.ret ?_
          refine At.then_ret ?_
          refine At.block_ret ?_
          refine At.then_ret ?_
          refine At.then_ret ?_
          refine At.block_ret ?_
          refine At.then_ret ?_
          refine At.ret2 rfl rfl rfl ?_
          rw [← hgo]
          exact ⟨_, rfl, rfl, hF2.trans hf3⟩
        ·
          refine Sl.calm (Cm.move rfl) rfl ?_
          refine Sl.want rfl rfl (Cm.move rfl) rfl ?_
          refine Sl.want rfl rfl (Cm.move rfl) rfl ?_
          refine Sl.forkWant rfl rfl (Cm.gtr rfl rfl) rfl (fun h33 => ?_) (fun h33 => ?_)
          ·
            rw [wkGo_bad (.inr h33)] at hgo
            refine Sl.calm (Cm.pick_f rfl rfl) rfl ?_
            refine Sl.nil ?_
            refine At.weak [(0, _), (1, _), (3, _), (10, _), (11, _), (19, _), (20, _), (21, _), (34, _)] ⟨rfl, rfl, rfl, rfl, rfl, rfl, rfl, rfl, rfl, trivial⟩ ?_
            refine At.go ?_
            refine Sc.cond_t rfl ?_
            refine Sc.seq ?_
            refine Sc.region ?_
            refine Sl.calm (Cm.assign rfl) rfl ?_
            refine Sl.calm (Cm.assign rfl) rfl ?_
            refine Sl.nil ?_
            refine At.go ?_
            refine Sc.ret ?_
            refine At.then_ret ?_
            refine At.block_ret ?_
            refine At.then_ret ?_
            refine At.then_ret ?_
            refine At.block_ret ?_
            refine At.then_ret ?_
            refine At.ret2 rfl rfl rfl ?_
            rw [← hgo]
            exact ⟨_, rfl, rfl, hF2.trans hf3⟩
          ·
            rw [wkGo_on (by rintro (h | h); exact h29 h; exact h33 h)] at hgo
            refine Sl.calm (Cm.pick_f rfl rfl) rfl ?_
            refine Sl.nil ?_
            refine At.weak [(0, _), (1, _), (3, _), (10, _), (11, _), (19, _), (20, _), (21, _), (34, _)] ⟨rfl, rfl, rfl, rfl, rfl, rfl, rfl, rfl, rfl, trivial⟩ ?_
            refine At.go ?_
            refine Sc.cond_f rfl ?_
            refine Sc.skip ?_
            refine At.go ?_
            refine Sc.region ?_
            refine Sl.calm (Cm.move rfl) rfl ?_
            refine Sl.calm (Cm.assign rfl) rfl ?_
            refine Sl.nil ?_
            refine At.block_normal ?_
            refine At.weak [(0, _), (1, _), (3, _), (10, _), (11, _), (19, _), (20, _), (21, _), (34, _)] ⟨rfl, rfl, rfl, rfl, rfl, rfl, rfl, rfl, rfl, trivial⟩ ?_
            refine At.go ?_
            refine Sc.region ?_
            refine Sl.calm (Cm.add64 rfl rfl (by omega)) rfl ?_
            refine Sl.calm (Cm.move rfl) rfl ?_
            refine Sl.nil ?_
            have hk2 : k = S / 128 - (i + 1) := by omega
            rw [hk2] at hgo
            exact At.again ⟨i + 1, (skipS im a).1⟩ ⟨rfl, rfl, rfl, rfl, rfl, trivial⟩ ⟨by omega, by omega, hgo, hF2.trans hf3⟩ (by show S / 128 - (i + 1) < S / 128 - i; omega)
      ·
        have hk : S / 128 - i = 0 := by omega
        rw [hk] at hgo
        refine Sl.nil ?_
        refine At.go ?_
        refine Sc.seq ?_
        refine Sc.cond_f rfl ?_
        refine Sc.exit ?_
        refine At.then_exit ?_
        refine At.then_exit ?_
        refine At.block_hit ?_
        refine At.go ?_
        refine Sc.seq ?_
        refine Sc.region ?_
        refine Sl.calm (Cm.move rfl) rfl ?_
        refine Sl.calm (Cm.assign rfl) rfl ?_
        refine Sl.calm (Cm.assign rfl) rfl ?_
        refine Sl.nil ?_
        refine At.weak [(0, _), (1, _), (3, _), (8, _), (9, _), (19, _), (20, _), (21, _)] ⟨rfl, rfl, rfl, rfl, rfl, rfl, rfl, rfl, trivial⟩ ?_
        refine At.go ?_
        refine Sc.ret ?_
        refine At.ret2 rfl rfl rfl ?_
        rw [← hgo]
        exact ⟨_, rfl, rfl, hF2⟩
set_option maxHeartbeats 2000000 in
theorem rdwalk_ok (io : Option Addr) (ic : Nat) (im : List UInt8) (start size e : Int) (W : World) (hv : Vw b8 W.heap io ic im) (him : im.length ≤ 1099511627776) (hst : start ≤ 9223372036854775807) :
    Calls Tryd.prog 20 [.slice io im.length ic, .int .i64 start, .int .i64 size, .int .i64 e].toArray W (Ret (WkP W (walkD im start size e))) := by
  refine calls_of_sc 42 [(0, _), (1, _), (2, _), (3, _)] Tryd.func20 rfl rfl rfl (enter_slots ⟨rfl, rfl, rfl, rfl, trivial⟩) ?_
  refine Sc.seq ?_
  refine Sc.region ?_
  refine Sl.calm (Cm.assign rfl) rfl ?_
  refine Sl.calm (Cm.assign rfl) rfl ?_
  refine Sl.nil ?_
  refine At.go ?_
  refine Sc.seq ?_
  refine Sc.seq ?_
  refine Sc.region ?_
  refine Sl.calm (Cm.move rfl) rfl ?_
  refine Sl.fork (Cm.lss rfl rfl) rfl (fun h15 => ?_) (fun h15 => ?_)
  ·
    have hR := walkD_bad (im := im) (start := start) (e := e) (.inl h15)
    refine Sl.calm (Cm.move rfl) rfl ?_
    refine Sl.skip rfl rfl rfl rfl ?_
    refine Sl.skip rfl rfl rfl rfl ?_
    refine Sl.calm (Cm.pick_t rfl rfl) rfl ?_
    refine Sl.nil ?_
    refine At.weak [(0, _), (1, _), (2, _), (3, _), (8, _), (9, _), (19, _)] ⟨rfl, rfl, rfl, rfl, rfl, rfl, rfl, trivial⟩ ?_
    refine At.go ?_
    refine Sc.cond_t rfl ?_
    refine Sc.seq ?_
    refine Sc.region ?_
    refine Sl.calm (Cm.assign rfl) rfl ?_
    refine Sl.calm (Cm.assign rfl) rfl ?_
    refine Sl.nil ?_
    refine At.go ?_
    refine Sc.ret ?_
    refine At.then_ret ?_
    refine At.ret2 rfl rfl rfl ?_
    rw [hR]
    exact ⟨_, rfl, rfl, Foot.refl _ _⟩
  ·
    refine Sl.calm (Cm.move rfl) rfl ?_
    refine Sl.want rfl rfl (Cm.move rfl) rfl ?_
    refine Sl.forkWant rfl rfl (Cm.gtr rfl rfl) rfl (fun h18 => ?_) (fun h18 => ?_)
    ·
      have hR := walkD_bad (im := im) (start := start) (e := e) (.inr (show (4096 : Int) < size from h18))
      refine Sl.calm (Cm.pick_f rfl rfl) rfl ?_
      refine Sl.nil ?_
      refine At.weak [(0, _), (1, _), (2, _), (3, _), (8, _), (9, _), (19, _)] ⟨rfl, rfl, rfl, rfl, rfl, rfl, rfl, trivial⟩ ?_
      refine At.go ?_
      refine Sc.cond_t rfl ?_
      refine Sc.seq ?_
      refine Sc.region ?_
      refine Sl.calm (Cm.assign rfl) rfl ?_
      refine Sl.calm (Cm.assign rfl) rfl ?_
      refine Sl.nil ?_
      refine At.go ?_
      refine Sc.ret ?_
      refine At.then_ret ?_
      refine At.ret2 rfl rfl rfl ?_
      rw [hR]
      exact ⟨_, rfl, rfl, Foot.refl _ _⟩
    ·
      obtain ⟨S, rfl⟩ := Int.eq_ofNat_of_zero_le (show 0 ≤ size by omega)
      have hR := walkD_go (im := im) (start := start) (e := e) (size := S) (by omega)
      refine Sl.calm (Cm.pick_f rfl rfl) rfl ?_
      refine Sl.nil ?_
      refine At.weak [(0, _), (1, _), (2, _), (3, _), (8, _), (9, _), (19, _)] ⟨rfl, rfl, rfl, rfl, rfl, rfl, rfl, trivial⟩ ?_
      refine At.go ?_
      refine Sc.cond_f rfl ?_
      refine Sc.skip ?_
      refine At.go ?_
      refine Sc.seq ?_
      refine Sc.region ?_
      refine Sl.calm (Cm.move rfl) rfl ?_
      refine Sl.calm (Cm.assign rfl) rfl ?_
      refine Sl.nil ?_
      refine At.weak [(0, _), (1, _), (2, _), (3, _), (8, _), (9, _), (10, _), (19, _)] ⟨rfl, rfl, rfl, rfl, rfl, rfl, rfl, rfl, trivial⟩ ?_
      refine At.go ?_
      refine Sc.seq ?_
      refine Sc.seq ?_
      refine Sc.region ?_
      refine Sl.calm (Cm.assign rfl) rfl ?_
      refine Sl.nil ?_
      refine At.go ?_
      refine Sc.block ?_
      refine Sc.loop (β := Nat × Int) (fun ⟨i, a⟩ => [(0, .slice io im.length ic), (2, .int .i64 (S : Nat)), (3, .int .i64 e), (10, .int .i64 a), (11, .int .i64 i)]) (fun ⟨i, a⟩ w => i ≤ S / 128 ∧ a ≤ 9223372036854775807 ∧ wkGo im e (S / 128 - i) a = walkD im start S e ∧ Foot nob W w) (fun ⟨i, a⟩ => S / 128 - i) ⟨0, start⟩ ⟨rfl, rfl, rfl, rfl, rfl, trivial⟩ ⟨Nat.zero_le _, hst, hR.symm, Foot.refl _ _⟩ ?_
      rintro ⟨i, a⟩ w2 ⟨hi, ha, hgo, hF2⟩
      refine Sc.seq ?_
      refine Sc.seq ?_
      refine Sc.region ?_
      refine Sl.calm (Cm.move rfl) rfl ?_
      refine Sl.calm (Cm.move rfl) rfl ?_
      refine Sl.calm (Cm.ofEq (u := .int .i64 ((S / 128 : Nat) : Int)) (Cm.quo64 rfl rfl (by omega) (by decide)) (by congr 1)) rfl ?_
      refine Sl.fork (Cm.lss rfl rfl) rfl (fun h24 => ?_) (fun h24 => ?_)
      ·
        obtain ⟨k, hk⟩ : ∃ k, S / 128 - i = k + 1 := ⟨S / 128 - i - 1, by omega⟩
        rw [hk] at hgo
        refine Sl.nil ?_
        refine At.weak [(0, _), (2, _), (3, _), (10, _), (11, _), (24, _)] ⟨rfl, rfl, rfl, rfl, rfl, rfl, trivial⟩ ?_
        refine At.go ?_
        refine Sc.cond_t rfl ?_
        refine Sc.skip ?_
        refine At.go ?_
        refine Sc.seq ?_
        refine Sc.block ?_
        refine Sc.seq ?_
        refine Sc.region ?_
        refine Sl.calm (Cm.move rfl) rfl ?_
        refine Sl.calm (Cm.move rfl) rfl ?_
        refine Sl.call fn30 rfl (rfskip_ok io ic im a w2 (hv.grow hF2) him (by omega)) rfl ?_
        rintro _ w3 ⟨rfl, hf3⟩
        have hbd := skipS_bd im a
        refine Sl.calm (Cm.move rfl) rfl ?_
        refine Sl.calm (Cm.extract rfl rfl) rfl ?_
        refine Sl.calm (Cm.extract rfl rfl) rfl ?_
        refine Sl.calm (Cm.assign rfl) rfl ?_
        refine Sl.calm (Cm.assign rfl) rfl ?_
        refine Sl.nil ?_
        refine At.weak [(0, _), (2, _), (3, _), (10, _), (11, _), (12, _), (13, _), (24, _)] ⟨rfl, rfl, rfl, rfl, rfl, rfl, rfl, rfl, trivial⟩ ?_
        refine At.go ?_
        refine Sc.seq ?_
        refine Sc.seq ?_
        refine Sc.region ?_
        refine Sl.calm (Cm.move rfl) rfl ?_
        refine Sl.fork (Cm.neq rfl rfl) rfl (fun h34 => ?_) (fun h34 => ?_)
        ·
          rw [wkGo_bad (.inl h34)] at hgo
          refine Sl.calm (Cm.move rfl) rfl ?_
          refine Sl.skip rfl rfl rfl rfl ?_
          refine Sl.skip rfl rfl rfl rfl ?_
          refine Sl.skip rfl rfl rfl rfl ?_
          refine Sl.calm (Cm.pick_t rfl rfl) rfl ?_
          refine Sl.nil ?_
          refine At.weak [(0, _), (2, _), (3, _), (10, _), (11, _), (12, _), (13, _), (24, _), (39, _)] ⟨rfl, rfl, rfl, rfl, rfl, rfl, rfl, rfl, rfl, trivial⟩ ?_
          refine At.go ?_
          refine Sc.cond_t rfl ?_
          refine Sc.seq ?_
          refine Sc.region ?_
          refine Sl.calm (Cm.assign rfl) rfl ?_
          refine Sl.calm (Cm.assign rfl) rfl ?_
          refine Sl.nil ?_
          refine At.go ?_
          refine Sc.ret ?_
          refine At.then_ret ?_
          refine At.block_ret ?_
          refine At.then_ret ?_
          refine At.then_ret ?_
          refine At.block_ret ?_
          refine At.then_ret ?_
          refine At.ret2 rfl rfl rfl ?_
          rw [← hgo]
          exact ⟨_, rfl, rfl, hF2.trans hf3⟩
        ·
          refine Sl.calm (Cm.move rfl) rfl ?_
          refine Sl.want rfl rfl (Cm.move rfl) rfl ?_
          refine Sl.want rfl rfl (Cm.move rfl) rfl ?_
          refine Sl.forkWant rfl rfl (Cm.gtr rfl rfl) rfl (fun h38 => ?_) (fun h38 => ?_)
          ·
            rw [wkGo_bad (.inr h38)] at hgo
            refine Sl.calm (Cm.pick_f rfl rfl) rfl ?_
            refine Sl.nil ?_
            refine At.weak [(0, _), (2, _), (3, _), (10, _), (11, _), (12, _), (13, _), (24, _), (39, _)] ⟨rfl, rfl, rfl, rfl, rfl, rfl, rfl, rfl, rfl, trivial⟩ ?_
            refine At.go ?_
            refine Sc.cond_t rfl ?_
            refine Sc.seq ?_
            refine Sc.region ?_
            refine Sl.calm (Cm.assign rfl) rfl ?_
            refine Sl.calm (Cm.assign rfl) rfl ?_
            refine Sl.nil ?_
            refine At.go ?_
            refine Sc.ret ?_
            refine At.then_ret ?_
            refine At.block_ret ?_
            refine At.then_ret ?_
            refine At.then_ret ?_
            refine At.block_ret ?_
            refine At.then_ret ?_
            refine At.ret2 rfl rfl rfl ?_
            rw [← hgo]
            exact ⟨_, rfl, rfl, hF2.trans hf3⟩
          ·
            rw [wkGo_on (by rintro (h | h); exact h34 h; exact h38 h)] at hgo
            refine Sl.calm (Cm.pick_f rfl rfl) rfl ?_
            refine Sl.nil ?_
            refine At.weak [(0, _), (2, _), (3, _), (10, _), (11, _), (12, _), (13, _), (24, _), (39, _)] ⟨rfl, rfl, rfl, rfl, rfl, rfl, rfl, rfl, rfl, trivial⟩ ?_
            refine At.go ?_
            refine Sc.cond_f rfl ?_
            refine Sc.skip ?_
            refine At.go ?_
            refine Sc.region ?_
            refine Sl.calm (Cm.move rfl) rfl ?_
            refine Sl.calm (Cm.assign rfl) rfl ?_
            refine Sl.nil ?_
            refine At.block_normal ?_
            refine At.weak [(0, _), (2, _), (3, _), (10, _), (11, _), (12, _), (13, _), (24, _), (39, _)] ⟨rfl, rfl, rfl, rfl, rfl, rfl, rfl, rfl, rfl, trivial⟩ ?_
            refine At.go ?_
            refine Sc.region ?_
            refine Sl.calm (Cm.move rfl) rfl ?_
            refine Sl.calm (Cm.add64 rfl rfl (by omega)) rfl ?_
            refine Sl.calm (Cm.assign rfl) rfl ?_
            refine Sl.nil ?_
            have hk2 : k = S / 128 - (i + 1) := by omega
            rw [hk2] at hgo
            exact At.again ⟨i + 1, (skipS im a).1⟩ ⟨rfl, rfl, rfl, rfl, rfl, trivial⟩ ⟨by omega, by omega, hgo, hF2.trans hf3⟩ (by show S / 128 - (i + 1) < S / 128 - i; omega)
      ·
        have hk : S / 128 - i = 0 := by omega
        rw [hk] at hgo
        refine Sl.nil ?_
        refine At.weak [(0, _), (2, _), (3, _), (10, _), (11, _), (24, _)] ⟨rfl, rfl, rfl, rfl, rfl, rfl, trivial⟩ ?_
        refine At.go ?_
        refine Sc.cond_f rfl ?_
        refine Sc.exit ?_
        refine At.then_exit ?_
        refine At.then_exit ?_
        refine At.block_hit ?_
        refine At.go ?_
        refine Sc.seq ?_
        refine Sc.region ?_
        refine Sl.calm (Cm.move rfl) rfl ?_
        refine Sl.calm (Cm.assign rfl) rfl ?_
        refine Sl.calm (Cm.assign rfl) rfl ?_
        refine Sl.nil ?_
        refine At.weak [(0, _), (2, _), (3, _), (8, _), (9, _), (10, _), (11, _), (24, _)] ⟨rfl, rfl, rfl, rfl, rfl, rfl, rfl, rfl, trivial⟩ ?_
        refine At.go ?_
        refine Sc.ret ?_
        refine At.ret2 rfl rfl rfl ?_
        rw [← hgo]
        exact ⟨_, rfl, rfl, hF2⟩
def DrP (W : World) (r : List UInt8 × Int) : Value → World → Prop := fun v w' => ∃ o c, v = .tuple #[.slice o r.1.length c, .int .i64 r.2] ∧ Own b8 5 w'.heap o c r.1 ∧ Fr W.heap.size o ∧ Foot nob W w'
set_option maxHeartbeats 8000000 in
theorem dread_ok (p : Nat) (io : Option Addr) (ic : Nat) (im : List UInt8) (start size off n : Int) (W : World) (ht : TbV W.heap p) (hv : Vw b8 W.heap io ic im) (him : im.length ≤ 1099511627776) (hst : start ≤ 9223372036854775807) (hbo : off ≤ 9223372036854775807) (hbn : n ≤ 9223372036854775807) :
    Calls Tryd.prog 17 [.pointer (some ⟨p, 0, none⟩), .slice io im.length ic, .int .i64 start, .int .i64 size, .int .i64 off, .int .i64 n].toArray W (Ret (DrP W (readD im start size off n))) := by
  refine calls_of_sc 109 [(0, _), (1, _), (2, _), (3, _), (4, _), (5, _)] Tryd.func17 rfl rfl rfl (enter_slots ⟨rfl, rfl, rfl, rfl, rfl, rfl, trivial⟩) ?_
  refine Sc.seq ?_
  refine Sc.region ?_
  refine Sl.calm (Cm.assign rfl) rfl ?_
  refine Sl.calm (Cm.assign rfl) rfl ?_
  refine Sl.nil ?_
  refine At.go ?_
  refine Sc.seq ?_
  refine Sc.seq ?_
  refine Sc.region ?_
  refine Sl.calm (Cm.move rfl) rfl ?_
  refine Sl.fork (Cm.lss rfl rfl) rfl (fun h23 => ?_) (fun h23 => ?_)
  ·
    have hR := readD_bad (im := im) (start := start) (size := size) (off := off) (n := n) (.inl h23)
    refine Sl.calm (Cm.move rfl) rfl ?_
    refine Sl.skip rfl rfl rfl rfl ?_
    refine Sl.skip rfl rfl rfl rfl ?_
    refine Sl.calm (Cm.pick_t rfl rfl) rfl ?_
    refine Sl.calm (Cm.move rfl) rfl ?_
    refine Sl.skip rfl rfl rfl rfl ?_
    refine Sl.skip rfl rfl rfl rfl ?_
    refine Sl.calm (Cm.pick_t rfl rfl) rfl ?_
    refine Sl.calm (Cm.move rfl) rfl ?_
    refine Sl.skip rfl rfl rfl rfl ?_
    refine Sl.skip rfl rfl rfl rfl ?_
    refine Sl.calm (Cm.pick_t rfl rfl) rfl ?_
    refine Sl.nil ?_
    refine At.weak [(0, _), (1, _), (2, _), (3, _), (4, _), (5, _), (12, _), (13, _), (35, _)] ⟨rfl, rfl, rfl, rfl, rfl, rfl, rfl, rfl, rfl, trivial⟩ ?_
    refine At.go ?_
    refine Sc.cond_t rfl ?_
    refine Sc.seq ?_
    refine Sc.region ?_
    refine Sl.calm (Cm.assign rfl) rfl ?_
    refine Sl.calm (Cm.assign rfl) rfl ?_
    refine Sl.nil ?_
    refine At.go ?_
    refine Sc.ret ?_
    refine At.then_ret ?_
    refine At.ret2 rfl rfl rfl ?_
    rw [hR]
    exact ⟨_, rfl, none, 0, rfl, Own.nil, Fr.none, Foot.refl _ _⟩
  ·
    refine Sl.calm (Cm.move rfl) rfl ?_
    refine Sl.want rfl rfl (Cm.move rfl) rfl ?_
    refine Sl.forkWant rfl rfl (Cm.lss rfl rfl) rfl (fun h26 => ?_) (fun h26 => ?_)
    ·
      have hR := readD_bad (im := im) (start := start) (size := size) (off := off) (n := n) (.inr (.inl h26))
      refine Sl.calm (Cm.pick_f rfl rfl) rfl ?_
      refine Sl.calm (Cm.move rfl) rfl ?_
      refine Sl.skip rfl rfl rfl rfl ?_
      refine Sl.skip rfl rfl rfl rfl ?_
      refine Sl.calm (Cm.pick_t rfl rfl) rfl ?_
      refine Sl.calm (Cm.move rfl) rfl ?_
      refine Sl.skip rfl rfl rfl rfl ?_
      refine Sl.skip rfl rfl rfl rfl ?_
      refine Sl.calm (Cm.pick_t rfl rfl) rfl ?_
      refine Sl.nil ?_
      refine At.weak [(0, _), (1, _), (2, _), (3, _), (4, _), (5, _), (12, _), (13, _), (35, _)] ⟨rfl, rfl, rfl, rfl, rfl, rfl, rfl, rfl, rfl, trivial⟩ ?_
      refine At.go ?_
      refine Sc.cond_t rfl ?_
      refine Sc.seq ?_
      refine Sc.region ?_
      refine Sl.calm (Cm.assign rfl) rfl ?_
      refine Sl.calm (Cm.assign rfl) rfl ?_
      refine Sl.nil ?_
      refine At.go ?_
      refine Sc.ret ?_
      refine At.then_ret ?_
      refine At.ret2 rfl rfl rfl ?_
      rw [hR]
      exact ⟨_, rfl, none, 0, rfl, Own.nil, Fr.none, Foot.refl _ _⟩
    ·
      refine Sl.calm (Cm.pick_f rfl rfl) rfl ?_
      refine Sl.calm (Cm.move rfl) rfl ?_
      refine Sl.want rfl rfl (Cm.move rfl) rfl ?_
      refine Sl.forkWant rfl rfl (Cm.lss rfl rfl) rfl (fun h30 => ?_) (fun h30 => ?_)
      ·
        have hR := readD_bad (im := im) (start := start) (size := size) (off := off) (n := n) (.inr (.inr (.inl h30)))
        refine Sl.calm (Cm.pick_f rfl rfl) rfl ?_
        refine Sl.calm (Cm.move rfl) rfl ?_
        refine Sl.skip rfl rfl rfl rfl ?_
        refine Sl.skip rfl rfl rfl rfl ?_
        refine Sl.calm (Cm.pick_t rfl rfl) rfl ?_
        refine Sl.nil ?_
        refine At.weak [(0, _), (1, _), (2, _), (3, _), (4, _), (5, _), (12, _), (13, _), (35, _)] ⟨rfl, rfl, rfl, rfl, rfl, rfl, rfl, rfl, rfl, trivial⟩ ?_
        refine At.go ?_
        refine Sc.cond_t rfl ?_
        refine Sc.seq ?_
        refine Sc.region ?_
        refine Sl.calm (Cm.assign rfl) rfl ?_
        refine Sl.calm (Cm.assign rfl) rfl ?_
        refine Sl.nil ?_
        refine At.go ?_
        refine Sc.ret ?_
        refine At.then_ret ?_
        refine At.ret2 rfl rfl rfl ?_
        rw [hR]
        exact ⟨_, rfl, none, 0, rfl, Own.nil, Fr.none, Foot.refl _ _⟩
      ·
        refine Sl.calm (Cm.pick_f rfl rfl) rfl ?_
        refine Sl.calm (Cm.move rfl) rfl ?_
        refine Sl.want rfl rfl (Cm.move rfl) rfl ?_
        refine Sl.forkWant rfl rfl (Cm.gtr rfl rfl) rfl (fun h34 => ?_) (fun h34 => ?_)
        ·
          have hR := readD_bad (im := im) (start := start) (size := size) (off := off) (n := n) (.inr (.inr (.inr (show (4096 : Int) < size from h34))))
          refine Sl.calm (Cm.pick_f rfl rfl) rfl ?_
          refine Sl.nil ?_
          refine At.weak [(0, _), (1, _), (2, _), (3, _), (4, _), (5, _), (12, _), (13, _), (35, _)] ⟨rfl, rfl, rfl, rfl, rfl, rfl, rfl, rfl, rfl, trivial⟩ ?_
          refine At.go ?_
          refine Sc.cond_t rfl ?_
          refine Sc.seq ?_
          refine Sc.region ?_
          refine Sl.calm (Cm.assign rfl) rfl ?_
          refine Sl.calm (Cm.assign rfl) rfl ?_
          refine Sl.nil ?_
          refine At.go ?_
          refine Sc.ret ?_
          refine At.then_ret ?_
          refine At.ret2 rfl rfl rfl ?_
          rw [hR]
          exact ⟨_, rfl, none, 0, rfl, Own.nil, Fr.none, Foot.refl _ _⟩
        ·
          obtain ⟨S, rfl⟩ := Int.eq_ofNat_of_zero_le (show 0 ≤ size by omega)
          obtain ⟨O, rfl⟩ := Int.eq_ofNat_of_zero_le (show 0 ≤ off by omega)
          obtain ⟨n, rfl⟩ := Int.eq_ofNat_of_zero_le (show 0 ≤ n by omega)
          obtain ⟨N, hN⟩ : ∃ N, N = S / 128 := ⟨_, rfl⟩
          refine Sl.calm (Cm.pick_f rfl rfl) rfl ?_
          refine Sl.nil ?_
          refine At.weak [(0, _), (1, _), (2, _), (3, _), (4, _), (5, _), (12, _), (13, _), (35, _)] ⟨rfl, rfl, rfl, rfl, rfl, rfl, rfl, rfl, rfl, trivial⟩ ?_
          refine At.go ?_
          refine Sc.cond_f rfl ?_
          refine Sc.skip ?_
          refine At.go ?_
          refine Sc.seq ?_
          refine Sc.region ?_
          refine Sl.calm (Cm.move rfl) rfl ?_
          refine Sl.calm (Cm.ofEq (u := .int .i64 (N : Int)) (Cm.quo64 rfl rfl (by omega) (by decide)) (by congr 1; omega)) rfl ?_
          refine Sl.calm (Cm.ofEq (u := .int .i64 ((N * 128 : Nat) : Int)) (Cm.mul64 rfl rfl (by omega)) (by congr 1)) rfl ?_
          refine Sl.calm (Cm.assign rfl) rfl ?_
          refine Sl.nil ?_
          refine At.weak [(0, _), (1, _), (2, _), (3, _), (4, _), (5, _), (12, _), (13, _), (14, _), (35, _)] ⟨rfl, rfl, rfl, rfl, rfl, rfl, rfl, rfl, rfl, rfl, trivial⟩ ?_
          refine At.go ?_
          refine Sc.seq ?_
          refine Sc.seq ?_
          refine Sc.region ?_
          refine Sl.calm (Cm.move rfl) rfl ?_
          refine Sl.calm (Cm.move rfl) rfl ?_
          refine Sl.fork (Cm.geq rfl rfl) rfl (fun h41 => ?_) (fun h41 => ?_)
          ·
            have hR := readD_nil (im := im) (start := start) (size := S) (off := O) (n := n) (by omega) (by omega)
            refine Sl.nil ?_
            refine At.weak [(0, _), (1, _), (2, _), (3, _), (4, _), (5, _), (12, _), (13, _), (14, _), (35, _), (41, _)] ⟨rfl, rfl, rfl, rfl, rfl, rfl, rfl, rfl, rfl, rfl, rfl, trivial⟩ ?_
            refine At.go ?_
            refine Sc.cond_t rfl ?_
            refine Sc.seq ?_
            refine Sc.region ?_
            refine Sl.calm (Cm.assign rfl) rfl ?_
            refine Sl.calm (Cm.assign rfl) rfl ?_
            refine Sl.nil ?_
            refine At.go ?_
            refine Sc.ret ?_
            refine At.then_ret ?_
            refine At.ret2 rfl rfl rfl ?_
            rw [hR]
            exact ⟨_, rfl, none, 0, rfl, Own.nil, Fr.none, Foot.refl _ _⟩
          ·
            have hR := readD_go (im := im) (start := start) (size := S) (off := O) (n := n) (by omega) (by omega)
            rw [← hN] at hR
            obtain ⟨m, hm⟩ : ∃ m, m = min n (N * 128 - O) := ⟨_, rfl⟩
            refine Sl.nil ?_
            refine At.weak [(0, _), (1, _), (2, _), (3, _), (4, _), (5, _), (12, _), (13, _), (14, _), (35, _), (41, _)] ⟨rfl, rfl, rfl, rfl, rfl, rfl, rfl, rfl, rfl, rfl, rfl, trivial⟩ ?_
            refine At.go ?_
            refine Sc.cond_f rfl ?_
            refine Sc.skip ?_
            refine At.go ?_
            refine Sc.seq ?_
            refine Sc.region ?_
            refine Sl.calm (Cm.move rfl) rfl ?_
            refine Sl.calm (Cm.move rfl) rfl ?_
            refine Sl.calm (Cm.move rfl) rfl ?_
            refine Sl.calm (Cm.sub64 rfl rfl (by omega)) rfl ?_
            refine Sl.calm (Cm.ofEq (u := .int .i64 (m : Int)) (Cm.min2 rfl rfl) (by congr 1; split <;> omega)) rfl ?_
            refine Sl.calm (Cm.assign rfl) rfl ?_
            refine Sl.nil ?_
            refine At.weak [(0, _), (1, _), (2, _), (3, _), (4, _), (5, _), (12, _), (13, _), (14, _), (35, _), (41, _)] ⟨rfl, rfl, rfl, rfl, rfl, rfl, rfl, rfl, rfl, rfl, rfl, trivial⟩ ?_
            refine At.go ?_
            refine Sc.seq ?_
            refine Sc.region ?_
            refine Sl.calm (Cm.assign rfl) rfl ?_
            refine Sl.nil ?_
            refine At.go ?_
            refine Sc.seq ?_
            refine Sc.seq ?_
            refine Sc.region ?_
            refine Sl.calm (Cm.assign rfl) rfl ?_
            refine Sl.nil ?_
            refine At.go ?_
            refine Sc.block ?_
            refine Sc.loop (β := Nat × Int × List UInt8 × (Option Addr × Nat)) (fun ⟨i, a, out, ⟨oo, oc⟩⟩ => [(0, .pointer (some ⟨p, 0, none⟩)), (1, .slice io im.length ic), (2, .int .i64 a), (4, .int .i64 (O : Nat)), (5, .int .i64 (m : Nat)), (15, .slice oo out.length oc), (16, .int .i64 (i * 128 : Nat))]) (fun ⟨i, a, out, ⟨oo, oc⟩⟩ w => i ≤ N ∧ a ≤ 9223372036854775807 ∧ rdGo im O n (N - i) i a out = readD im start S O n ∧ out.length = min n (i * 128 - O) ∧ Own b8 5 w.heap oo oc out ∧ Fr W.heap.size oo ∧ Foot nob W w) (fun ⟨i, a, out, ⟨oo, oc⟩⟩ => N - i) ⟨0, start, [], ⟨none, 0⟩⟩ ⟨rfl, rfl, rfl, rfl, rfl, rfl, rfl, trivial⟩ ⟨Nat.zero_le _, hst, hR.symm, by simp, Own.nil, Fr.none, Foot.refl _ _⟩ ?_
            rintro ⟨i, a, out, ⟨oo, oc⟩⟩ w2 ⟨hi, ha, hgo, hol, hoo, hfro, hF2⟩
            refine Sc.seq ?_
            refine Sc.seq ?_
            refine Sc.region ?_
            refine Sl.calm (Cm.move rfl) rfl ?_
            refine Sl.calm (Cm.len sl23 rfl) rfl ?_
            refine Sl.calm (Cm.move rfl) rfl ?_
            refine Sl.fork (Cm.lss rfl rfl) rfl (fun h50 => ?_) (fun h50 => ?_)
            ·
              have hiN : i < N := by omega
              have hon : out.length < n := by omega
              obtain ⟨k, hk⟩ : ∃ k, N - i = k + 1 := ⟨N - i - 1, by omega⟩
              rw [hk] at hgo
              refine Sl.nil ?_
              refine At.weak [(0, _), (1, _), (2, _), (4, _), (5, _), (15, _), (16, _), (50, _)] ⟨rfl, rfl, rfl, rfl, rfl, rfl, rfl, rfl, trivial⟩ ?_
              refine At.go ?_
              refine Sc.cond_t rfl ?_
              refine Sc.skip ?_
              refine At.go ?_
              refine Sc.seq ?_
              refine Sc.block ?_
              refine Sc.seq ?_
              refine Sc.seq ?_
              refine Sc.region ?_
              refine Sl.calm (Cm.move rfl) rfl ?_
              refine Sl.calm (Cm.add64 rfl rfl (by omega)) rfl ?_
              refine Sl.calm (Cm.move rfl) rfl ?_
              refine Sl.fork (Cm.leq rfl rfl) rfl (fun h56 => ?_) (fun h56 => ?_)
              ·
                have h56 : i * 128 + 128 ≤ O := by omega
                refine Sl.nil ?_
                refine At.weak [(0, _), (1, _), (2, _), (4, _), (5, _), (15, _), (16, _), (50, _), (56, _)] ⟨rfl, rfl, rfl, rfl, rfl, rfl, rfl, rfl, rfl, trivial⟩ ?_
                refine At.go ?_
                refine Sc.cond_t rfl ?_
                refine Sc.seq ?_
                refine Sc.region ?_
                refine Sl.calm (Cm.move rfl) rfl ?_
                refine Sl.calm (Cm.move rfl) rfl ?_
                refine Sl.call fn28 rfl (fskip_ok io ic im a w2 (hv.grow hF2) him (by omega)) rfl ?_
                rintro _ w3 ⟨rfl, hf3⟩
                have hbd := skipS_bd im a
                refine Sl.calm (Cm.move rfl) rfl ?_
                refine Sl.calm (Cm.extract rfl rfl) rfl ?_
                refine Sl.calm (Cm.extract rfl rfl) rfl ?_
                refine Sl.calm (Cm.assign rfl) rfl ?_
                refine Sl.calm (Cm.assign rfl) rfl ?_
                refine Sl.nil ?_
                refine At.weak [(0, _), (1, _), (2, _), (4, _), (5, _), (15, _), (16, _), (17, _), (18, _), (50, _), (56, _)] ⟨rfl, rfl, rfl, rfl, rfl, rfl, rfl, rfl, rfl, rfl, rfl, trivial⟩ ?_
                refine At.go ?_
                refine Sc.seq ?_
                refine Sc.seq ?_
                refine Sc.region ?_
                refine Sl.calm (Cm.move rfl) rfl ?_
                refine Sl.fork (Cm.neq rfl rfl) rfl (fun h64 => ?_) (fun h64 => ?_)
                ·
                  rw [rdGo_sbad hon h56 h64] at hgo
                  refine Sl.nil ?_
                  refine At.weak [(0, _), (1, _), (2, _), (4, _), (5, _), (15, _), (16, _), (17, _), (18, _), (50, _), (56, _), (64, _)] ⟨rfl, rfl, rfl, rfl, rfl, rfl, rfl, rfl, rfl, rfl, rfl, rfl, trivial⟩ ?_
                  refine At.go ?_
                  refine Sc.cond_t rfl ?_
                  refine Sc.seq ?_
                  refine Sc.region ?_
                  refine Sl.calm (Cm.assign rfl) rfl ?_
                  refine Sl.calm (Cm.assign rfl) rfl ?_
                  refine Sl.nil ?_
                  refine At.go ?_
                  refine Sc.ret ?_
                  refine At.then_ret ?_
                  refine At.then_ret ?_
                  refine At.block_ret ?_
                  refine At.then_ret ?_
                  refine At.then_ret ?_
                  refine At.block_ret ?_
                  refine At.then_ret ?_
                  refine At.ret2 rfl rfl rfl ?_
                  rw [← hgo]
                  exact ⟨_, rfl, none, 0, rfl, Own.nil, Fr.none, hF2.trans hf3⟩
                ·
                  rw [rdGo_skip hon h56 h64] at hgo
                  refine Sl.nil ?_
                  refine At.weak [(0, _), (1, _), (2, _), (4, _), (5, _), (15, _), (16, _), (17, _), (18, _), (50, _), (56, _), (64, _)] ⟨rfl, rfl, rfl, rfl, rfl, rfl, rfl, rfl, rfl, rfl, rfl, rfl, trivial⟩ ?_
                  refine At.go ?_
                  refine Sc.cond_f rfl ?_
                  refine Sc.skip ?_
                  refine At.go ?_
                  refine Sc.seq ?_
                  refine Sc.region ?_
                  refine Sl.calm (Cm.move rfl) rfl ?_
                  refine Sl.calm (Cm.assign rfl) rfl ?_
                  refine Sl.nil ?_
                  refine At.weak [(0, _), (1, _), (2, _), (4, _), (5, _), (15, _), (16, _), (17, _), (18, _), (50, _), (56, _), (64, _)] ⟨rfl, rfl, rfl, rfl, rfl, rfl, rfl, rfl, rfl, rfl, rfl, rfl, trivial⟩ ?_
                  refine At.go ?_
                  refine Sc.exit ?_
                  refine At.then_exit ?_
                  refine At.block_hit ?_
                  refine At.go ?_
                  refine Sc.region ?_
                  refine Sl.calm (Cm.move rfl) rfl ?_
                  refine Sl.calm (Cm.add64 rfl rfl (by omega)) rfl ?_
                  refine Sl.calm (Cm.assign rfl) rfl ?_
                  refine Sl.nil ?_
                  have hk2 : k = N - (i + 1) := by omega
                  rw [hk2] at hgo
                  exact At.again ⟨i + 1, (skipS im a).1, out, ⟨oo, oc⟩⟩ ⟨rfl, rfl, rfl, rfl, rfl, rfl, congrArg (fun z : Int => some (Value.int .i64 z)) (show ((i * 128 : Nat) : Int) + 128 = (((i + 1) * 128 : Nat) : Int) by omega), trivial⟩ ⟨by omega, by omega, hgo, by omega, hoo.grow hf3, hfro, hF2.trans hf3⟩ (by show N - (i + 1) < N - i; omega)
              ·
                have h56 : ¬ i * 128 + 128 ≤ O := by omega
                refine Sl.nil ?_
                refine At.weak [(0, _), (1, _), (2, _), (4, _), (5, _), (15, _), (16, _), (50, _), (56, _)] ⟨rfl, rfl, rfl, rfl, rfl, rfl, rfl, rfl, rfl, trivial⟩ ?_
                refine At.go ?_
                refine Sc.cond_f rfl ?_
                refine Sc.skip ?_
                refine At.go ?_
                refine Sc.seq ?_
                refine Sc.region ?_
                refine Sl.calm (Cm.move rfl) rfl ?_
                refine Sl.calm (Cm.move rfl) rfl ?_
                refine Sl.calm (Cm.move rfl) rfl ?_
                refine Sl.call fn29 rfl (ftake_ok p io ic im a w2 (hF2.obj ht id) (hv.grow hF2) him (by omega)) rfl ?_
                rintro _ w3 ⟨o3, c3, rfl, ho3, hfr3, hf3⟩
                have hbd := takeS_bd im a
                obtain ⟨T, hT⟩ : ∃ T, T = takeS im a := ⟨_, rfl⟩
                rw [← hT] at ho3 hbd ⊢
                have hz3 := hf3.size
                have hz2 := hF2.size
                refine Sl.calm (Cm.move rfl) rfl ?_
                refine Sl.calm (Cm.extract rfl rfl) rfl ?_
                refine Sl.calm (Cm.extract rfl rfl) rfl ?_
                refine Sl.calm (Cm.extract rfl rfl) rfl ?_
                refine Sl.calm (Cm.assign rfl) rfl ?_
                refine Sl.calm (Cm.assign rfl) rfl ?_
                refine Sl.calm (Cm.assign rfl) rfl ?_
                refine Sl.nil ?_
                refine At.weak [(0, _), (1, _), (2, _), (4, _), (5, _), (15, _), (16, _), (19, _), (20, _), (21, _), (50, _), (56, _)] ⟨rfl, rfl, rfl, rfl, rfl, rfl, rfl, rfl, rfl, rfl, rfl, rfl, trivial⟩ ?_
                refine At.go ?_
                refine Sc.seq ?_
                refine Sc.seq ?_
                refine Sc.region ?_
                refine Sl.calm (Cm.move rfl) rfl ?_
                refine Sl.fork (Cm.neq rfl rfl) rfl (fun h75 => ?_) (fun h75 => ?_)
                ·
                  rw [rdGo_bad hon h56 (.inl (by rw [← hT]; exact h75))] at hgo
                  refine Sl.calm (Cm.move rfl) rfl ?_
                  refine Sl.skip rfl rfl rfl rfl ?_
                  refine Sl.skip rfl rfl rfl rfl ?_
                  refine Sl.skip rfl rfl rfl rfl ?_
                  refine Sl.skip rfl rfl rfl rfl ?_
                  refine Sl.skip rfl rfl rfl rfl ?_
                  refine Sl.skip rfl rfl rfl rfl ?_
                  refine Sl.skip rfl rfl rfl rfl ?_
                  refine Sl.skip rfl rfl rfl rfl ?_
                  refine Sl.calm (Cm.pick_t rfl rfl) rfl ?_
                  refine Sl.nil ?_
                  refine At.weak [(0, _), (1, _), (2, _), (4, _), (5, _), (15, _), (16, _), (19, _), (20, _), (21, _), (50, _), (56, _), (85, _)] ⟨rfl, rfl, rfl, rfl, rfl, rfl, rfl, rfl, rfl, rfl, rfl, rfl, rfl, trivial⟩ ?_
                  refine At.go ?_
                  refine Sc.cond_t rfl ?_
                  refine Sc.seq ?_
                  refine Sc.region ?_
                  refine Sl.calm (Cm.assign rfl) rfl ?_
                  refine Sl.calm (Cm.assign rfl) rfl ?_
                  refine Sl.nil ?_
                  refine At.go ?_
                  refine Sc.ret ?_
                  refine At.then_ret ?_
                  refine At.block_ret ?_
                  refine At.then_ret ?_
                  refine At.then_ret ?_
                  refine At.block_ret ?_
                  refine At.then_ret ?_
                  refine At.ret2 rfl rfl rfl ?_
                  rw [← hgo]
                  exact ⟨_, rfl, none, 0, rfl, Own.nil, Fr.none, hF2.trans hf3⟩
                ·
                  refine Sl.calm (Cm.move rfl) rfl ?_
                  refine Sl.want rfl rfl (Cm.move rfl) rfl ?_
                  refine Sl.want rfl rfl (Cm.len sl23 rfl) rfl ?_
                  refine Sl.forkWant rfl rfl (Cm.neq rfl rfl) rfl (fun h79 => ?_) (fun h79 => ?_)
                  ·
                    refine Sl.want rfl rfl (Cm.move rfl) rfl ?_
                    refine Sl.want rfl rfl (Cm.move rfl) rfl ?_
                    refine Sl.want rfl rfl (Cm.len sl23 rfl) rfl ?_
                    refine Sl.forkWant rfl rfl (Cm.neq rfl rfl) rfl (fun h83 => ?_) (fun h83 => ?_)
                    ·
                      rw [rdGo_bad hon h56 (.inr ⟨by rw [← hT]; omega, by rw [← hT]; omega⟩)] at hgo
                      refine Sl.want rfl rfl (Cm.pick_t rfl rfl) rfl ?_
                      refine Sl.calm (Cm.pick_f rfl rfl) rfl ?_
                      refine Sl.nil ?_
                      refine At.weak [(0, _), (1, _), (2, _), (4, _), (5, _), (15, _), (16, _), (19, _), (20, _), (21, _), (50, _), (56, _), (85, _)] ⟨rfl, rfl, rfl, rfl, rfl, rfl, rfl, rfl, rfl, rfl, rfl, rfl, rfl, trivial⟩ ?_
                      refine At.go ?_
                      refine Sc.cond_t rfl ?_
                      refine Sc.seq ?_
                      refine Sc.region ?_
                      refine Sl.calm (Cm.assign rfl) rfl ?_
                      refine Sl.calm (Cm.assign rfl) rfl ?_
                      refine Sl.nil ?_
                      refine At.go ?_
                      refine Sc.ret ?_
                      refine At.then_ret ?_
                      refine At.block_ret ?_
                      refine At.then_ret ?_
                      refine At.then_ret ?_
                      refine At.block_ret ?_
                      refine At.then_ret ?_
                      refine At.ret2 rfl rfl rfl ?_
                      rw [← hgo]
                      exact ⟨_, rfl, none, 0, rfl, Own.nil, Fr.none, hF2.trans hf3⟩
                    ·
                      have hgood : ¬ (T.1.length ≠ 0 ∧ T.1.length ≠ 128) := by omega
                      rw [rdGo_take hon h56 (by rw [← hT]; rintro (h | h); exact h75 h; exact hgood h), ← hT] at hgo
                      have hBl := blkD_len hgood
                      obtain ⟨B, hB⟩ : ∃ B, B = blkD T.1 := ⟨_, rfl⟩
                      rw [← hB] at hgo hBl
                      refine Sl.want rfl rfl (Cm.pick_t rfl rfl) rfl ?_
                      refine Sl.calm (Cm.pick_f rfl rfl) rfl ?_
                      refine Sl.nil ?_
                      refine At.weak [(0, _), (1, _), (2, _), (4, _), (5, _), (15, _), (16, _), (19, _), (20, _), (21, _), (50, _), (56, _), (85, _)] ⟨rfl, rfl, rfl, rfl, rfl, rfl, rfl, rfl, rfl, rfl, rfl, rfl, rfl, trivial⟩ ?_
                      refine At.go ?_
                      refine Sc.cond_f rfl ?_
                      refine Sc.skip ?_
                      refine At.go ?_
                      refine Sc.cut (β := Option Addr × Nat) (fun ⟨bo, bc⟩ => [(0, .pointer (some ⟨p, 0, none⟩)), (1, .slice io im.length ic), (4, .int .i64 (O : Nat)), (5, .int .i64 (m : Nat)), (15, .slice oo out.length oc), (16, .int .i64 (i * 128 : Nat)), (19, .slice bo B.length bc), (20, .int .i64 T.2.1)]) (fun ⟨bo, bc⟩ w => Vw b8 w.heap bo bc B ∧ Foot nob w3 w) ?_ ?_
                      ·
                        refine Sc.seq ?_
                        refine Sc.region ?_
                        refine Sl.calm (Cm.move rfl) rfl ?_
                        refine Sl.calm (Cm.len sl23 rfl) rfl ?_
                        refine Sl.fork (Cm.eql rfl rfl) rfl (fun h88 => ?_) (fun h88 => ?_)
                        ·
                          have hBz : B = List.replicate 128 0 := by rw [hB]; exact if_pos (by omega)
                          refine Sl.nil ?_
                          refine At.weak [(0, _), (1, _), (2, _), (4, _), (5, _), (15, _), (16, _), (19, _), (20, _), (21, _), (50, _), (56, _), (85, _), (88, _)] ⟨rfl, rfl, rfl, rfl, rfl, rfl, rfl, rfl, rfl, rfl, rfl, rfl, rfl, rfl, trivial⟩ ?_
                          refine At.go ?_
                          refine Sc.cond_t rfl ?_
                          refine Sc.region ?_
                          refine Sl.make b8 (0 : UInt8) sl23 z5 rfl rfl rfl (by decide) (by decide) (by decide) (by decide) rfl ?_
                          intro w4 ho4 hs4 hf4
                          refine Sl.calm (Cm.assign rfl) rfl ?_
                          refine Sl.nil ?_
                          exact At.cut ⟨some ⟨w3.heap.size, 0, none⟩, 128⟩ ⟨rfl, rfl, rfl, rfl, rfl, rfl, (by rw [hBl]; rfl), rfl, trivial⟩ ⟨by rw [hBz]; exact ho4.vw, hf4⟩
                        ·
                          have hBz : B = T.1 := by rw [hB]; exact if_neg (by omega)
                          refine Sl.nil ?_
                          refine At.weak [(0, _), (1, _), (2, _), (4, _), (5, _), (15, _), (16, _), (19, _), (20, _), (21, _), (50, _), (56, _), (85, _), (88, _)] ⟨rfl, rfl, rfl, rfl, rfl, rfl, rfl, rfl, rfl, rfl, rfl, rfl, rfl, rfl, trivial⟩ ?_
                          refine At.go ?_
                          refine Sc.cond_f rfl ?_
                          refine Sc.skip ?_
                          exact At.cut ⟨o3, c3⟩ ⟨rfl, rfl, rfl, rfl, rfl, rfl, (by rw [hBz]; rfl), rfl, trivial⟩ ⟨by rw [hBz]; exact ho3.vw, Foot.refl _ _⟩
                      ·
                        rintro ⟨bo, bc⟩ w5 ⟨hbv, hf35⟩
                        refine Sc.seq ?_
                        refine Sc.region ?_
                        refine Sl.calm (Cm.move rfl) rfl ?_
                        refine Sl.calm (Cm.move rfl) rfl ?_
                        refine Sl.calm (Cm.move rfl) rfl ?_
                        refine Sl.calm (Cm.sub64 rfl rfl (by omega)) rfl ?_
                        refine Sl.calm (Cm.ofEq (u := .int .i64 ((O - i * 128 : Nat) : Int)) (Cm.max2 rfl rfl) (by congr 1; split <;> omega)) rfl ?_
                        obtain ⟨d, hd⟩ : ∃ d, d = O - i * 128 := ⟨_, rfl⟩
                        rw [← hd] at hgo ⊢
                        have hdl : (B.drop d).length = 128 - d := by rw [List.length_drop, hBl]
                        have hbcl := hbv.le
                        refine Sl.calm (Cm.ofEq (u := .slice (cutAo bo bc d 1) (B.drop d).length (bc - d)) (Cm.sliceL sl23 rfl rfl (by omega)) (by rw [hdl, hBl]; rfl)) rfl ?_
                        refine Sl.calm (Cm.assign rfl) rfl ?_
                        refine Sl.nil ?_
                        refine At.weak [(0, _), (1, _), (4, _), (5, _), (15, _), (16, _), (19, _), (20, _)] ⟨rfl, rfl, rfl, rfl, rfl, rfl, rfl, rfl, trivial⟩ ?_
                        refine At.go ?_
                        refine Sc.region ?_
                        refine Sl.calm (Cm.move rfl) rfl ?_
                        refine Sl.calm (Cm.move rfl) rfl ?_
                        refine Sl.calm (Cm.move rfl) rfl ?_
                        refine Sl.calm (Cm.len sl23 rfl) rfl ?_
                        refine Sl.calm (Cm.move rfl) rfl ?_
                        refine Sl.calm (Cm.move rfl) rfl ?_
                        refine Sl.calm (Cm.len sl23 rfl) rfl ?_
                        refine Sl.calm (Cm.sub64 rfl rfl (by omega)) rfl ?_
                        obtain ⟨e, he⟩ : ∃ e, e = min (128 - d) (m - out.length) := ⟨_, rfl⟩
                        refine Sl.calm (Cm.ofEq (u := .int .i64 (e : Int)) (Cm.min2 rfl rfl) (by congr 1; split <;> omega)) rfl ?_
                        refine Sl.calm (Cm.ofEq (u := .slice (cutAo bo bc d 1) ((B.drop d).take e).length (bc - d)) (Cm.sliceH sl23 rfl rfl (by omega)) (by rw [cutAo_zero, List.length_take, Nat.min_eq_left (by omega)]; rfl)) rfl ?_
                        have hcd := cut_drop (n := d) hbv (by omega) (by omega)
                        rw [show (d : Int).toNat = d from rfl] at hcd
                        have hte : (B.drop d).take e = (B.drop d).take (n - out.length) := by
                          by_cases h : e = n - out.length
                          · rw [h]
                          · rw [List.take_of_length_le (by omega), List.take_of_length_le (by omega)]
                        have hz5 := hf35.size
                        have hel : ((B.drop d).take e).length = e := by rw [List.length_take]; omega
                        refine Sl.append b8_one sl23 rfl rfl ((hoo.grow hf3).grow hf35) (hcd.take e) (by omega) (by unfold maxLen; omega) rfl ?_
                        intro o6 c6 w6 ho6 hf6 hr6 hn6
                        refine Sl.calm (Cm.move rfl) rfl ?_
                        refine Sl.calm (Cm.assign rfl) rfl ?_
                        refine Sl.calm (Cm.assign rfl) rfl ?_
                        refine Sl.nil ?_
                        refine At.block_normal ?_
                        refine At.weak [(0, _), (1, _), (2, _), (4, _), (5, _), (15, _), (16, _), (19, _), (20, _)] ⟨rfl, rfl, rfl, rfl, rfl, rfl, rfl, rfl, rfl, trivial⟩ ?_
                        refine At.go ?_
                        refine Sc.region ?_
                        refine Sl.calm (Cm.move rfl) rfl ?_
                        refine Sl.calm (Cm.add64 rfl rfl (by omega)) rfl ?_
                        refine Sl.calm (Cm.assign rfl) rfl ?_
                        refine Sl.nil ?_
                        have hk2 : k = N - (i + 1) := by omega
                        rw [hk2, ← hte] at hgo
                        exact At.again ⟨i + 1, T.2.1, out ++ (B.drop d).take e, ⟨o6, c6⟩⟩ ⟨rfl, rfl, rfl, rfl, rfl, rfl, congrArg (fun z : Int => some (Value.int .i64 z)) (show ((i * 128 : Nat) : Int) + 128 = (((i + 1) * 128 : Nat) : Int) by omega), trivial⟩ ⟨by omega, by omega, hgo, by rw [List.length_append, hel]; omega, ho6, fr_next hfro hr6 (by omega), ((hF2.trans hf3).trans hf35).trans_to hf6 (fun k ⟨a, ha, e⟩ => .inr (by have := hfro a ha; omega))⟩ (by show N - (i + 1) < N - i; omega)
                  ·
                    have hgood : ¬ (T.1.length ≠ 0 ∧ T.1.length ≠ 128) := by omega
                    rw [rdGo_take hon h56 (by rw [← hT]; rintro (h | h); exact h75 h; exact hgood h), ← hT] at hgo
                    have hBl := blkD_len hgood
                    obtain ⟨B, hB⟩ : ∃ B, B = blkD T.1 := ⟨_, rfl⟩
                    rw [← hB] at hgo hBl
                    refine Sl.want rfl rfl (Cm.move rfl) rfl ?_
                    refine Sl.skip rfl rfl rfl rfl ?_
                    refine Sl.skip rfl rfl rfl rfl ?_
                    refine Sl.skip rfl rfl rfl rfl ?_
                    refine Sl.want rfl rfl (Cm.pick_f rfl rfl) rfl ?_
                    refine Sl.calm (Cm.pick_f rfl rfl) rfl ?_
                    refine Sl.nil ?_
                    refine At.weak [(0, _), (1, _), (2, _), (4, _), (5, _), (15, _), (16, _), (19, _), (20, _), (21, _), (50, _), (56, _), (85, _)] ⟨rfl, rfl, rfl, rfl, rfl, rfl, rfl, rfl, rfl, rfl, rfl, rfl, rfl, trivial⟩ ?_
                    refine At.go ?_
                    refine Sc.cond_f rfl ?_
                    refine Sc.skip ?_
                    refine At.go ?_
                    refine Sc.cut (β := Option Addr × Nat) (fun ⟨bo, bc⟩ => [(0, .pointer (some ⟨p, 0, none⟩)), (1, .slice io im.length ic), (4, .int .i64 (O : Nat)), (5, .int .i64 (m : Nat)), (15, .slice oo out.length oc), (16, .int .i64 (i * 128 : Nat)), (19, .slice bo B.length bc), (20, .int .i64 T.2.1)]) (fun ⟨bo, bc⟩ w => Vw b8 w.heap bo bc B ∧ Foot nob w3 w) ?_ ?_
                    ·
                      refine Sc.seq ?_
                      refine Sc.region ?_
                      refine Sl.calm (Cm.move rfl) rfl ?_
                      refine Sl.calm (Cm.len sl23 rfl) rfl ?_
                      refine Sl.fork (Cm.eql rfl rfl) rfl (fun h88 => ?_) (fun h88 => ?_)
                      ·
                        have hBz : B = List.replicate 128 0 := by rw [hB]; exact if_pos (by omega)
                        refine Sl.nil ?_
                        refine At.weak [(0, _), (1, _), (2, _), (4, _), (5, _), (15, _), (16, _), (19, _), (20, _), (21, _), (50, _), (56, _), (85, _), (88, _)] ⟨rfl, rfl, rfl, rfl, rfl, rfl, rfl, rfl, rfl, rfl, rfl, rfl, rfl, rfl, trivial⟩ ?_
                        refine At.go ?_
                        refine Sc.cond_t rfl ?_
                        refine Sc.region ?_
                        refine Sl.make b8 (0 : UInt8) sl23 z5 rfl rfl rfl (by decide) (by decide) (by decide) (by decide) rfl ?_
                        intro w4 ho4 hs4 hf4
                        refine Sl.calm (Cm.assign rfl) rfl ?_
                        refine Sl.nil ?_
                        exact At.cut ⟨some ⟨w3.heap.size, 0, none⟩, 128⟩ ⟨rfl, rfl, rfl, rfl, rfl, rfl, (by rw [hBl]; rfl), rfl, trivial⟩ ⟨by rw [hBz]; exact ho4.vw, hf4⟩
                      ·
                        have hBz : B = T.1 := by rw [hB]; exact if_neg (by omega)
                        refine Sl.nil ?_
                        refine At.weak [(0, _), (1, _), (2, _), (4, _), (5, _), (15, _), (16, _), (19, _), (20, _), (21, _), (50, _), (56, _), (85, _), (88, _)] ⟨rfl, rfl, rfl, rfl, rfl, rfl, rfl, rfl, rfl, rfl, rfl, rfl, rfl, rfl, trivial⟩ ?_
                        refine At.go ?_
                        refine Sc.cond_f rfl ?_
                        refine Sc.skip ?_
                        exact At.cut ⟨o3, c3⟩ ⟨rfl, rfl, rfl, rfl, rfl, rfl, (by rw [hBz]; rfl), rfl, trivial⟩ ⟨by rw [hBz]; exact ho3.vw, Foot.refl _ _⟩
                    ·
                      rintro ⟨bo, bc⟩ w5 ⟨hbv, hf35⟩
                      refine Sc.seq ?_
                      refine Sc.region ?_
                      refine Sl.calm (Cm.move rfl) rfl ?_
                      refine Sl.calm (Cm.move rfl) rfl ?_
                      refine Sl.calm (Cm.move rfl) rfl ?_
                      refine Sl.calm (Cm.sub64 rfl rfl (by omega)) rfl ?_
                      refine Sl.calm (Cm.ofEq (u := .int .i64 ((O - i * 128 : Nat) : Int)) (Cm.max2 rfl rfl) (by congr 1; split <;> omega)) rfl ?_
                      obtain ⟨d, hd⟩ : ∃ d, d = O - i * 128 := ⟨_, rfl⟩
                      rw [← hd] at hgo ⊢
                      have hdl : (B.drop d).length = 128 - d := by rw [List.length_drop, hBl]
                      have hbcl := hbv.le
                      refine Sl.calm (Cm.ofEq (u := .slice (cutAo bo bc d 1) (B.drop d).length (bc - d)) (Cm.sliceL sl23 rfl rfl (by omega)) (by rw [hdl, hBl]; rfl)) rfl ?_
                      refine Sl.calm (Cm.assign rfl) rfl ?_
                      refine Sl.nil ?_
                      refine At.weak [(0, _), (1, _), (4, _), (5, _), (15, _), (16, _), (19, _), (20, _)] ⟨rfl, rfl, rfl, rfl, rfl, rfl, rfl, rfl, trivial⟩ ?_
                      refine At.go ?_
                      refine Sc.region ?_
                      refine Sl.calm (Cm.move rfl) rfl ?_
                      refine Sl.calm (Cm.move rfl) rfl ?_
                      refine Sl.calm (Cm.move rfl) rfl ?_
                      refine Sl.calm (Cm.len sl23 rfl) rfl ?_
                      refine Sl.calm (Cm.move rfl) rfl ?_
                      refine Sl.calm (Cm.move rfl) rfl ?_
                      refine Sl.calm (Cm.len sl23 rfl) rfl ?_
                      refine Sl.calm (Cm.sub64 rfl rfl (by omega)) rfl ?_
                      obtain ⟨e, he⟩ : ∃ e, e = min (128 - d) (m - out.length) := ⟨_, rfl⟩
                      refine Sl.calm (Cm.ofEq (u := .int .i64 (e : Int)) (Cm.min2 rfl rfl) (by congr 1; split <;> omega)) rfl ?_
                      refine Sl.calm (Cm.ofEq (u := .slice (cutAo bo bc d 1) ((B.drop d).take e).length (bc - d)) (Cm.sliceH sl23 rfl rfl (by omega)) (by rw [cutAo_zero, List.length_take, Nat.min_eq_left (by omega)]; rfl)) rfl ?_
                      have hcd := cut_drop (n := d) hbv (by omega) (by omega)
                      rw [show (d : Int).toNat = d from rfl] at hcd
                      have hte : (B.drop d).take e = (B.drop d).take (n - out.length) := by
                        by_cases h : e = n - out.length
                        · rw [h]
                        · rw [List.take_of_length_le (by omega), List.take_of_length_le (by omega)]
                      have hz5 := hf35.size
                      have hel : ((B.drop d).take e).length = e := by rw [List.length_take]; omega
                      refine Sl.append b8_one sl23 rfl rfl ((hoo.grow hf3).grow hf35) (hcd.take e) (by omega) (by unfold maxLen; omega) rfl ?_
                      intro o6 c6 w6 ho6 hf6 hr6 hn6
                      refine Sl.calm (Cm.move rfl) rfl ?_
                      refine Sl.calm (Cm.assign rfl) rfl ?_
                      refine Sl.calm (Cm.assign rfl) rfl ?_
                      refine Sl.nil ?_
                      refine At.block_normal ?_
                      refine At.weak [(0, _), (1, _), (2, _), (4, _), (5, _), (15, _), (16, _), (19, _), (20, _)] ⟨rfl, rfl, rfl, rfl, rfl, rfl, rfl, rfl, rfl, trivial⟩ ?_
                      refine At.go ?_
                      refine Sc.region ?_
                      refine Sl.calm (Cm.move rfl) rfl ?_
                      refine Sl.calm (Cm.add64 rfl rfl (by omega)) rfl ?_
                      refine Sl.calm (Cm.assign rfl) rfl ?_
                      refine Sl.nil ?_
                      have hk2 : k = N - (i + 1) := by omega
                      rw [hk2, ← hte] at hgo
                      exact At.again ⟨i + 1, T.2.1, out ++ (B.drop d).take e, ⟨o6, c6⟩⟩ ⟨rfl, rfl, rfl, rfl, rfl, rfl, congrArg (fun z : Int => some (Value.int .i64 z)) (show ((i * 128 : Nat) : Int) + 128 = (((i + 1) * 128 : Nat) : Int) by omega), trivial⟩ ⟨by omega, by omega, hgo, by rw [List.length_append, hel]; omega, ho6, fr_next hfro hr6 (by omega), ((hF2.trans hf3).trans hf35).trans_to hf6 (fun k ⟨a, ha, e⟩ => .inr (by have := hfro a ha; omega))⟩ (by show N - (i + 1) < N - i; omega)
            ·
              have hend : rdGo im O n (N - i) i a out = (out, 0) := by
                by_cases h : n ≤ out.length
                · exact rdGo_end h
                · rw [show N - i = 0 by omega]; rfl
              rw [hend] at hgo
              refine Sl.nil ?_
              refine At.weak [(0, _), (1, _), (2, _), (4, _), (5, _), (15, _), (16, _), (50, _)] ⟨rfl, rfl, rfl, rfl, rfl, rfl, rfl, rfl, trivial⟩ ?_
              refine At.go ?_
              refine Sc.cond_f rfl ?_
              refine Sc.exit ?_
              refine At.then_exit ?_
              refine At.then_exit ?_
              refine At.block_hit ?_
              refine At.go ?_
              refine Sc.seq ?_
              refine Sc.region ?_
              refine Sl.calm (Cm.move rfl) rfl ?_
              refine Sl.calm (Cm.assign rfl) rfl ?_
              refine Sl.calm (Cm.assign rfl) rfl ?_
              refine Sl.nil ?_
              refine At.weak [(0, _), (1, _), (2, _), (4, _), (5, _), (12, _), (13, _), (15, _), (16, _), (50, _)] ⟨rfl, rfl, rfl, rfl, rfl, rfl, rfl, rfl, rfl, rfl, trivial⟩ ?_
              refine At.go ?_
              refine Sc.ret ?_
              refine At.ret2 rfl rfl rfl ?_
              rw [← hgo]
              exact ⟨_, rfl, oo, oc, rfl, hoo, hfro, hF2⟩
end Go.Proofs.YtpnfjfbfgaiolaaDoor
