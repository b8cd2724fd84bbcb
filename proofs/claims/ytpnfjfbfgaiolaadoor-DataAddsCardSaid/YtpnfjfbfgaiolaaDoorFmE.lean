/- frame: the reference's Take and Skip; the laws' head; the laws. No condition beyond the bounds that each states. -/
import Derived.Test.YtpnfjfbfgaiolaaDoorFmD
namespace Go.Proofs.YtpnfjfbfgaiolaaDoor
open Go Go.RowKit
set_option linter.unusedVariables false

set_option maxHeartbeats 2000000 in
theorem rftake_ok (io : Option Addr) (ic : Nat) (im : List UInt8) (a : Int) (W : World) (hv : Vw b8 W.heap io ic im) (hb : im.length ≤ 1099511627776) (ha : a ≤ 9223372036854775807) :
    Calls Tryd.prog 31 [.slice io im.length ic, .int .i64 a].toArray W (Ret (TkFP W (takeS im a))) := by
  refine calls_of_sc 53 [(0, _), (1, _)] Tryd.func31 rfl rfl rfl (enter_slots ⟨rfl, rfl, trivial⟩) ?_
  refine Sc.seq ?_
  refine Sc.region ?_
  refine Sl.calm (Cm.assign rfl) rfl ?_
  refine Sl.calm (Cm.assign rfl) rfl ?_
  refine Sl.calm (Cm.assign rfl) rfl ?_
  refine Sl.nil ?_
  refine At.go ?_
  refine Sc.seq ?_
  refine Sc.region ?_
  refine Sl.calm (Cm.move rfl) rfl ?_
  refine Sl.calm (Cm.move rfl) rfl ?_
  refine Sl.call fn50 rfl (rcut_ok io ic im a W hv hb ha) rfl ?_
  rintro _ w1 ⟨po, pc, x, s, st, nx, e, rfl, ho1, hfr1, hf1, hE0, hE1⟩
  refine Sl.calm (Cm.move rfl) rfl ?_
  refine Sl.calm (Cm.extract rfl rfl) rfl ?_
  refine Sl.calm (Cm.extract rfl rfl) rfl ?_
  refine Sl.calm (Cm.extract rfl rfl) rfl ?_
  refine Sl.calm (Cm.extract rfl rfl) rfl ?_
  refine Sl.calm (Cm.extract rfl rfl) rfl ?_
  refine Sl.calm (Cm.assign rfl) rfl ?_
  refine Sl.calm (Cm.assign rfl) rfl ?_
  refine Sl.calm (Cm.assign rfl) rfl ?_
  refine Sl.calm (Cm.assign rfl) rfl ?_
  refine Sl.calm (Cm.assign rfl) rfl ?_
  refine Sl.nil ?_
  refine At.weak [(0, _), (1, _), (4, _), (5, _), (6, _), (7, _), (8, _), (9, _), (10, _), (11, _)] ⟨rfl, rfl, rfl, rfl, rfl, rfl, rfl, rfl, rfl, rfl, trivial⟩ ?_
  refine At.go ?_
  refine Sc.seq ?_
  refine Sc.seq ?_
  refine Sc.region ?_
  refine Sl.calm (Cm.move rfl) rfl ?_
  refine Sl.fork (Cm.neq rfl rfl) rfl (fun h23 => ?_) (fun h23 => ?_)
  ·
    obtain ⟨he2, hnx, hcs⟩ := hE0 h23
    have hT := takeS_none hcs
    refine Sl.calm (Cm.move rfl) rfl ?_
    refine Sl.skip rfl rfl rfl rfl ?_
    refine Sl.skip rfl rfl rfl rfl ?_
    refine Sl.skip rfl rfl rfl rfl ?_
    refine Sl.calm (Cm.pick_t rfl rfl) rfl ?_
    refine Sl.nil ?_
    refine At.weak [(0, _), (1, _), (4, _), (5, _), (6, _), (7, _), (8, _), (9, _), (10, _), (11, _), (28, _)] ⟨rfl, rfl, rfl, rfl, rfl, rfl, rfl, rfl, rfl, rfl, rfl, trivial⟩ ?_
    refine At.go ?_
    refine Sc.cond_t rfl ?_
    refine Sc.seq ?_
    refine Sc.region ?_
    refine Sl.calm (Cm.move rfl) rfl ?_
    refine Sl.calm (Cm.move rfl) rfl ?_
    refine Sl.calm (Cm.assign rfl) rfl ?_
    refine Sl.calm (Cm.assign rfl) rfl ?_
    refine Sl.calm (Cm.assign rfl) rfl ?_
    refine Sl.nil ?_
    refine At.weak [(0, _), (1, _), (4, _), (5, _), (6, _), (7, _), (8, _), (9, _), (10, _), (11, _), (28, _)] ⟨rfl, rfl, rfl, rfl, rfl, rfl, rfl, rfl, rfl, rfl, rfl, trivial⟩ ?_
    refine At.go ?_
    refine Sc.ret ?_
    refine At.then_ret ?_
    refine At.ret3 rfl rfl rfl rfl ?_
    rw [hT]
    first
      | exact ⟨_, rfl, none, 0, by rw [he2, hnx]; rfl, Own.nil, Fr.none, hf1⟩
      | exact ⟨_, rfl, none, 0, by rw [hnx, he]; rfl, Own.nil, Fr.none, hf1⟩
      | exact ⟨_, rfl, none, 0, rfl, Own.nil, Fr.none, hf1⟩
      | exact ⟨_, rfl, po, pc, by rw [hnx], ho1, hfr1, hf1⟩
      | exact ⟨_, rfl, none, 0, rfl, Own.nil, Fr.none, hf1.trans hf5⟩
      | exact ⟨_, rfl, o5, c5, by rw [hnx], ho5, fun b hb => Nat.le_trans hf1.size (hfr5 b hb), hf1.trans hf5⟩
  ·
    have he : e = 0 := Decidable.not_not.1 h23
    obtain ⟨hcs, hnx⟩ := hE1 he
    obtain ⟨hxl, hsl⟩ := cutS_len hcs
    refine Sl.calm (Cm.move rfl) rfl ?_
    refine Sl.want rfl rfl (Cm.move rfl) rfl ?_
    refine Sl.want rfl rfl (Cm.len sl23 rfl) rfl ?_
    refine Sl.forkWant rfl rfl (Cm.eql rfl rfl) rfl (fun h27 => ?_) (fun h27 => ?_)
    ·
      have hT := takeS_empty hcs (by omega)
      refine Sl.calm (Cm.pick_f rfl rfl) rfl ?_
      refine Sl.nil ?_
      refine At.weak [(0, _), (1, _), (4, _), (5, _), (6, _), (7, _), (8, _), (9, _), (10, _), (11, _), (28, _)] ⟨rfl, rfl, rfl, rfl, rfl, rfl, rfl, rfl, rfl, rfl, rfl, trivial⟩ ?_
      refine At.go ?_
      refine Sc.cond_t rfl ?_
      refine Sc.seq ?_
      refine Sc.region ?_
      refine Sl.calm (Cm.move rfl) rfl ?_
      refine Sl.calm (Cm.move rfl) rfl ?_
      refine Sl.calm (Cm.assign rfl) rfl ?_
      refine Sl.calm (Cm.assign rfl) rfl ?_
      refine Sl.calm (Cm.assign rfl) rfl ?_
      refine Sl.nil ?_
      refine At.weak [(0, _), (1, _), (4, _), (5, _), (6, _), (7, _), (8, _), (9, _), (10, _), (11, _), (28, _)] ⟨rfl, rfl, rfl, rfl, rfl, rfl, rfl, rfl, rfl, rfl, rfl, trivial⟩ ?_
      refine At.go ?_
      refine Sc.ret ?_
      refine At.then_ret ?_
      refine At.ret3 rfl rfl rfl rfl ?_
      rw [hT]
      first
        | exact ⟨_, rfl, none, 0, by rw [he2, hnx]; rfl, Own.nil, Fr.none, hf1⟩
        | exact ⟨_, rfl, none, 0, by rw [hnx, he]; rfl, Own.nil, Fr.none, hf1⟩
        | exact ⟨_, rfl, none, 0, rfl, Own.nil, Fr.none, hf1⟩
        | exact ⟨_, rfl, po, pc, by rw [hnx], ho1, hfr1, hf1⟩
        | exact ⟨_, rfl, none, 0, rfl, Own.nil, Fr.none, hf1.trans hf5⟩
        | exact ⟨_, rfl, o5, c5, by rw [hnx], ho5, fun b hb => Nat.le_trans hf1.size (hfr5 b hb), hf1.trans hf5⟩
    ·
      have hx0 : ¬ x.length = 0 := by omega
      refine Sl.calm (Cm.pick_f rfl rfl) rfl ?_
      refine Sl.nil ?_
      refine At.weak [(0, _), (1, _), (4, _), (5, _), (6, _), (7, _), (8, _), (9, _), (10, _), (11, _), (28, _)] ⟨rfl, rfl, rfl, rfl, rfl, rfl, rfl, rfl, rfl, rfl, rfl, trivial⟩ ?_
      refine At.go ?_
      refine Sc.cond_f rfl ?_
      refine Sc.skip ?_
      refine At.go ?_
      refine Sc.seq ?_
      refine Sc.seq ?_
      refine Sc.region ?_
      refine Sl.calm (Cm.move rfl) rfl ?_
      refine Sl.calm (Cm.move rfl) rfl ?_
      have hsx := sumS_lt x
      refine Sl.call fn46 rfl (rsum_ok po pc x w1 ho1.vw) rfl ?_
      rintro _ wq ⟨rfl, hwq⟩
      subst wq
      refine Sl.calm (Cm.convI_in (n := ((sumS x : Nat) : Int)) is26 ty3 rfl (wrap64_id (by omega))) rfl ?_
      refine Sl.fork (Cm.neq rfl rfl) rfl (fun h35 => ?_) (fun h35 => ?_)
      ·
        have hT := takeS_sum hcs hx0 (fun h => h35 (by rw [h]))
        refine Sl.nil ?_
        refine At.weak [(0, _), (1, _), (4, _), (5, _), (6, _), (7, _), (8, _), (9, _), (10, _), (11, _), (28, _), (35, _)] ⟨rfl, rfl, rfl, rfl, rfl, rfl, rfl, rfl, rfl, rfl, rfl, rfl, trivial⟩ ?_
        refine At.go ?_
        refine Sc.cond_t rfl ?_
        refine Sc.seq ?_
        refine Sc.region ?_
        refine Sl.calm (Cm.assign rfl) rfl ?_
        refine Sl.calm (Cm.assign rfl) rfl ?_
        refine Sl.calm (Cm.assign rfl) rfl ?_
        refine Sl.nil ?_
        refine At.go ?_
        refine Sc.ret ?_
        refine At.then_ret ?_
        refine At.ret3 rfl rfl rfl rfl ?_
        rw [hT]
        first
          | exact ⟨_, rfl, none, 0, by rw [he2, hnx]; rfl, Own.nil, Fr.none, hf1⟩
          | exact ⟨_, rfl, none, 0, by rw [hnx, he]; rfl, Own.nil, Fr.none, hf1⟩
          | exact ⟨_, rfl, none, 0, rfl, Own.nil, Fr.none, hf1⟩
          | exact ⟨_, rfl, po, pc, by rw [hnx], ho1, hfr1, hf1⟩
          | exact ⟨_, rfl, none, 0, rfl, Own.nil, Fr.none, hf1.trans hf5⟩
          | exact ⟨_, rfl, o5, c5, by rw [hnx], ho5, fun b hb => Nat.le_trans hf1.size (hfr5 b hb), hf1.trans hf5⟩
      ·
        have hsum : ¬ sumS x ≠ s := fun h => h35 (fun h2 => h (by omega))
        refine Sl.nil ?_
        refine At.weak [(0, _), (1, _), (4, _), (5, _), (6, _), (7, _), (8, _), (9, _), (10, _), (11, _), (28, _), (35, _)] ⟨rfl, rfl, rfl, rfl, rfl, rfl, rfl, rfl, rfl, rfl, rfl, rfl, trivial⟩ ?_
        refine At.go ?_
        refine Sc.cond_f rfl ?_
        refine Sc.skip ?_
        refine At.go ?_
        refine Sc.seq ?_
        refine Sc.seq ?_
        refine Sc.region ?_
        refine Sl.fork (Cm.ofBool (Cm.move rfl)) rfl (fun h36 => ?_) (fun h36 => ?_)
        ·
          have hT := takeS_stored hcs hx0 hsum h36
          refine Sl.nil ?_
          refine At.go ?_
          refine Sc.cond_t rfl ?_
          refine Sc.seq ?_
          refine Sc.region ?_
          refine Sl.calm (Cm.move rfl) rfl ?_
          refine Sl.calm (Cm.move rfl) rfl ?_
          refine Sl.calm (Cm.assign rfl) rfl ?_
          refine Sl.calm (Cm.assign rfl) rfl ?_
          refine Sl.calm (Cm.assign rfl) rfl ?_
          refine Sl.nil ?_
          refine At.weak [(0, _), (1, _), (4, _), (5, _), (6, _), (7, _), (8, _), (9, _), (10, _), (11, _), (28, _), (35, _), (36, _)] ⟨rfl, rfl, rfl, rfl, rfl, rfl, rfl, rfl, rfl, rfl, rfl, rfl, rfl, trivial⟩ ?_
          refine At.go ?_
          refine Sc.ret ?_
          refine At.then_ret ?_
          refine At.ret3 rfl rfl rfl rfl ?_
          rw [hT]
          first
            | exact ⟨_, rfl, none, 0, by rw [he2, hnx]; rfl, Own.nil, Fr.none, hf1⟩
            | exact ⟨_, rfl, none, 0, by rw [hnx, he]; rfl, Own.nil, Fr.none, hf1⟩
            | exact ⟨_, rfl, none, 0, rfl, Own.nil, Fr.none, hf1⟩
            | exact ⟨_, rfl, po, pc, by rw [hnx], ho1, hfr1, hf1⟩
            | exact ⟨_, rfl, none, 0, rfl, Own.nil, Fr.none, hf1.trans hf5⟩
            | exact ⟨_, rfl, o5, c5, by rw [hnx], ho5, fun b hb => Nat.le_trans hf1.size (hfr5 b hb), hf1.trans hf5⟩
        ·
          refine Sl.nil ?_
          refine At.go ?_
          refine Sc.cond_f rfl ?_
          refine Sc.skip ?_
          refine At.go ?_
          refine Sc.seq ?_
          refine Sc.region ?_
          refine Sl.calm (Cm.move rfl) rfl ?_
          refine Sl.call fn51 rfl (runpack_ok po pc x 128 w1 ho1.vw (by omega) (by decide)) rfl ?_
          rw [upS_128]
          rintro _ w5 ⟨o5, c5, rfl, ho5, hfr5, hf5⟩
          refine Sl.calm (Cm.move rfl) rfl ?_
          refine Sl.calm (Cm.extract rfl rfl) rfl ?_
          refine Sl.calm (Cm.extract rfl rfl) rfl ?_
          refine Sl.calm (Cm.assign rfl) rfl ?_
          refine Sl.calm (Cm.assign rfl) rfl ?_
          refine Sl.nil ?_
          refine At.weak [(0, _), (1, _), (4, _), (5, _), (6, _), (7, _), (8, _), (9, _), (10, _), (11, _), (12, _), (28, _), (35, _), (36, _)] ⟨rfl, rfl, rfl, rfl, rfl, rfl, rfl, rfl, rfl, rfl, rfl, rfl, rfl, rfl, trivial⟩ ?_
          refine At.go ?_
          refine Sc.seq ?_
          refine Sc.seq ?_
          refine Sc.region ?_
          refine Sl.calm (Cm.move rfl) rfl ?_
          refine Sl.fork (Cm.neq rfl rfl) rfl (fun h45 => ?_) (fun h45 => ?_)
          ·
            have hT := takeS_bad hcs hx0 hsum h36 (.inl h45)
            refine Sl.calm (Cm.move rfl) rfl ?_
            refine Sl.skip rfl rfl rfl rfl ?_
            refine Sl.skip rfl rfl rfl rfl ?_
            refine Sl.skip rfl rfl rfl rfl ?_
            refine Sl.calm (Cm.pick_t rfl rfl) rfl ?_
            refine Sl.nil ?_
            refine At.weak [(0, _), (1, _), (4, _), (5, _), (6, _), (7, _), (8, _), (9, _), (10, _), (11, _), (12, _), (28, _), (35, _), (36, _), (50, _)] ⟨rfl, rfl, rfl, rfl, rfl, rfl, rfl, rfl, rfl, rfl, rfl, rfl, rfl, rfl, rfl, trivial⟩ ?_
            refine At.go ?_
            refine Sc.cond_t rfl ?_
            refine Sc.seq ?_
            refine Sc.region ?_
            refine Sl.calm (Cm.assign rfl) rfl ?_
            refine Sl.calm (Cm.assign rfl) rfl ?_
            refine Sl.calm (Cm.assign rfl) rfl ?_
            refine Sl.nil ?_
            refine At.go ?_
            refine Sc.ret ?_
            refine At.then_ret ?_
            refine At.ret3 rfl rfl rfl rfl ?_
            rw [hT]
            first
              | exact ⟨_, rfl, none, 0, by rw [he2, hnx]; rfl, Own.nil, Fr.none, hf1⟩
              | exact ⟨_, rfl, none, 0, by rw [hnx, he]; rfl, Own.nil, Fr.none, hf1⟩
              | exact ⟨_, rfl, none, 0, rfl, Own.nil, Fr.none, hf1⟩
              | exact ⟨_, rfl, po, pc, by rw [hnx], ho1, hfr1, hf1⟩
              | exact ⟨_, rfl, none, 0, rfl, Own.nil, Fr.none, hf1.trans hf5⟩
              | exact ⟨_, rfl, o5, c5, by rw [hnx], ho5, fun b hb => Nat.le_trans hf1.size (hfr5 b hb), hf1.trans hf5⟩
          ·
            have hu0 : (up 128 x []).2 = 0 := Decidable.not_not.1 h45
            refine Sl.calm (Cm.move rfl) rfl ?_
            refine Sl.want rfl rfl (Cm.move rfl) rfl ?_
            refine Sl.want rfl rfl (Cm.len sl23 rfl) rfl ?_
            refine Sl.forkWant rfl rfl (Cm.eql rfl rfl) rfl (fun h49 => ?_) (fun h49 => ?_)
            ·
              have hT := takeS_bad hcs hx0 hsum h36 (.inr (by omega))
              refine Sl.calm (Cm.pick_f rfl rfl) rfl ?_
              refine Sl.nil ?_
              refine At.weak [(0, _), (1, _), (4, _), (5, _), (6, _), (7, _), (8, _), (9, _), (10, _), (11, _), (12, _), (28, _), (35, _), (36, _), (50, _)] ⟨rfl, rfl, rfl, rfl, rfl, rfl, rfl, rfl, rfl, rfl, rfl, rfl, rfl, rfl, rfl, trivial⟩ ?_
              refine At.go ?_
              refine Sc.cond_t rfl ?_
              refine Sc.seq ?_
              refine Sc.region ?_
              refine Sl.calm (Cm.assign rfl) rfl ?_
              refine Sl.calm (Cm.assign rfl) rfl ?_
              refine Sl.calm (Cm.assign rfl) rfl ?_
              refine Sl.nil ?_
              refine At.go ?_
              refine Sc.ret ?_
              refine At.then_ret ?_
              refine At.ret3 rfl rfl rfl rfl ?_
              rw [hT]
              first
                | exact ⟨_, rfl, none, 0, by rw [he2, hnx]; rfl, Own.nil, Fr.none, hf1⟩
                | exact ⟨_, rfl, none, 0, by rw [hnx, he]; rfl, Own.nil, Fr.none, hf1⟩
                | exact ⟨_, rfl, none, 0, rfl, Own.nil, Fr.none, hf1⟩
                | exact ⟨_, rfl, po, pc, by rw [hnx], ho1, hfr1, hf1⟩
                | exact ⟨_, rfl, none, 0, rfl, Own.nil, Fr.none, hf1.trans hf5⟩
                | exact ⟨_, rfl, o5, c5, by rw [hnx], ho5, fun b hb => Nat.le_trans hf1.size (hfr5 b hb), hf1.trans hf5⟩
            ·
              have hT := takeS_lz hcs hx0 hsum h36 (by rintro (h | h); exact h hu0; omega)
              refine Sl.calm (Cm.pick_f rfl rfl) rfl ?_
              refine Sl.nil ?_
              refine At.weak [(0, _), (1, _), (4, _), (5, _), (6, _), (7, _), (8, _), (9, _), (10, _), (11, _), (12, _), (28, _), (35, _), (36, _), (50, _)] ⟨rfl, rfl, rfl, rfl, rfl, rfl, rfl, rfl, rfl, rfl, rfl, rfl, rfl, rfl, rfl, trivial⟩ ?_
              refine At.go ?_
              refine Sc.cond_f rfl ?_
              refine Sc.skip ?_
              refine At.go ?_
              refine Sc.seq ?_
              refine Sc.region ?_
              refine Sl.calm (Cm.move rfl) rfl ?_
              refine Sl.calm (Cm.move rfl) rfl ?_
              refine Sl.calm (Cm.assign rfl) rfl ?_
              refine Sl.calm (Cm.assign rfl) rfl ?_
              refine Sl.calm (Cm.assign rfl) rfl ?_
              refine Sl.nil ?_
              refine At.weak [(0, _), (1, _), (4, _), (5, _), (6, _), (7, _), (8, _), (9, _), (10, _), (11, _), (12, _), (28, _), (35, _), (36, _), (50, _)] ⟨rfl, rfl, rfl, rfl, rfl, rfl, rfl, rfl, rfl, rfl, rfl, rfl, rfl, rfl, rfl, trivial⟩ ?_
              refine At.go ?_
              refine Sc.ret ?_
              refine At.ret3 rfl rfl rfl rfl ?_
              rw [hT]
              first
                | exact ⟨_, rfl, none, 0, by rw [he2, hnx]; rfl, Own.nil, Fr.none, hf1⟩
                | exact ⟨_, rfl, none, 0, by rw [hnx, he]; rfl, Own.nil, Fr.none, hf1⟩
                | exact ⟨_, rfl, none, 0, rfl, Own.nil, Fr.none, hf1⟩
                | exact ⟨_, rfl, po, pc, by rw [hnx], ho1, hfr1, hf1⟩
                | exact ⟨_, rfl, none, 0, rfl, Own.nil, Fr.none, hf1.trans hf5⟩
                | exact ⟨_, rfl, o5, c5, by rw [hnx], ho5, fun b hb => Nat.le_trans hf1.size (hfr5 b hb), hf1.trans hf5⟩
theorem rfskip_ok (io : Option Addr) (ic : Nat) (im : List UInt8) (a : Int) (W : World) (hv : Vw b8 W.heap io ic im) (hb : im.length ≤ 1099511627776) (ha : a ≤ 9223372036854775807) :
    Calls Tryd.prog 30 [.slice io im.length ic, .int .i64 a].toArray W (Ret fun v w' => v = .tuple #[.int .i64 (skipS im a).1, .int .i64 (skipS im a).2] ∧ Foot nob W w') := by
  refine calls_of_sc 22 [(0, _), (1, _)] Tryd.func30 rfl rfl rfl (enter_slots ⟨rfl, rfl, trivial⟩) ?_
  refine Sc.seq ?_
  refine Sc.region ?_
  refine Sl.calm (Cm.assign rfl) rfl ?_
  refine Sl.calm (Cm.assign rfl) rfl ?_
  refine Sl.nil ?_
  refine At.go ?_
  refine Sc.seq ?_
  refine Sc.region ?_
  refine Sl.calm (Cm.move rfl) rfl ?_
  refine Sl.calm (Cm.move rfl) rfl ?_
  refine Sl.call fn50 rfl (rcut_ok io ic im a W hv hb ha) rfl ?_
  rintro _ w1 ⟨po, pc, x, s, st, nx, e, rfl, ho1, hfr1, hf1, hE0, hE1⟩
  have hsk : skipS im a = (nx, e) := by
    by_cases he : e = 0
    · obtain ⟨hcs, hnx⟩ := hE1 he
      rw [skipS_some hcs, hnx, he]
    · obtain ⟨he2, hnx, hcs⟩ := hE0 he
      rw [skipS_none hcs, hnx, he2]
  refine Sl.calm (Cm.move rfl) rfl ?_
  refine Sl.calm (Cm.extract rfl rfl) rfl ?_
  refine Sl.calm (Cm.extract rfl rfl) rfl ?_
  refine Sl.calm (Cm.extract rfl rfl) rfl ?_
  refine Sl.calm (Cm.extract rfl rfl) rfl ?_
  refine Sl.calm (Cm.extract rfl rfl) rfl ?_
  refine Sl.calm (Cm.assign rfl) rfl ?_
  refine Sl.calm (Cm.assign rfl) rfl ?_
  refine Sl.calm (Cm.assign rfl) rfl ?_
  refine Sl.calm (Cm.assign rfl) rfl ?_
  refine Sl.calm (Cm.assign rfl) rfl ?_
  refine Sl.nil ?_
  refine At.weak [(0, _), (1, _), (4, _), (5, _), (9, _), (10, _)] ⟨rfl, rfl, rfl, rfl, rfl, rfl, trivial⟩ ?_
  refine At.go ?_
  refine Sc.seq ?_
  refine Sc.region ?_
  refine Sl.calm (Cm.move rfl) rfl ?_
  refine Sl.calm (Cm.move rfl) rfl ?_
  refine Sl.calm (Cm.assign rfl) rfl ?_
  refine Sl.calm (Cm.assign rfl) rfl ?_
  refine Sl.nil ?_
  refine At.weak [(0, _), (1, _), (4, _), (5, _), (9, _), (10, _)] ⟨rfl, rfl, rfl, rfl, rfl, rfl, trivial⟩ ?_
  refine At.go ?_
  refine Sc.ret ?_
  refine At.ret2 rfl rfl rfl ?_
  rw [hsk]
  exact ⟨_, rfl, rfl, hf1⟩

theorem rn_sh {out l : List UInt8} (h0 : 0 < l.length) (h : l.length ≤ 128) : rn out l = out ++ UInt8.ofNat (l.length - 1) :: l := by
  rw [rn_step h0, show min l.length 128 = l.length by omega, List.take_of_length_le (Nat.le_refl _), List.drop_of_length_le (Nat.le_refl _), rn_nil]
def exF : List UInt8 := [2, 128, 125, 109, 72, 131, 158, 97, 98]
theorem ex_put0 : putS [] = ([0, 0, 255], 0) := by decide +kernel
theorem ex_put2 : putS [97, 98] = (exF, 0) := by
  have hp : pkS [97, 98] = [1, 97, 98] := by
    unfold pkS
    rw [pk_one (by decide) (by decide +kernel), pk_one (by decide) (by decide +kernel), pk_end (by decide), rn_sh (by decide) (by decide)]
    rfl
  unfold putS
  rw [if_neg (by decide), if_neg (by decide), hp, if_neg (by decide)]
  decide +kernel
theorem takeS_put {b : List UInt8} (h : b.length ≤ 128) (pre rest : List UInt8) : takeS (pre ++ ((putS b).1 ++ rest)) pre.length = (b, (pre.length : Int) + (putS b).1.length, 0) ∧ skipS (pre ++ ((putS b).1 ++ rest)) pre.length = ((pre.length : Int) + (putS b).1.length, 0) := by
  obtain ⟨h1, _, h3⟩ := take_frame h rest
  have hc : cutS (pre ++ ((putS b).1 ++ rest)) (pre.length : Int) = cutP ((putS b).1 ++ rest) := by
    unfold cutS
    rw [if_neg (by rw [List.length_append]; omega), show ((pre.length : Nat) : Int).toNat = pre.length from rfl, List.drop_left' rfl]
  refine ⟨?_, ?_⟩
  · unfold takeS
    rw [hc, h1]; rfl
  · unfold skipS
    rw [hc]
    split at h3
    · rename_i hn
      rw [hn] at h1
      unfold takeC at h1
      simp only [Prod.mk.injEq] at h1
      omega
    · rename_i x s st hn
      simp only [h3]
theorem ex_take : takeS exF 0 = ([97, 98], 9, 0) := by have := (takeS_put (b := [97, 98]) (by decide) [] []).1; rw [ex_put2] at this; exact this
theorem ex_cut : cutS exF 1 = none := by decide +kernel
theorem ex_none4 : takeS exF 1 = ([], 0, 2) := takeS_none ex_cut

end Go.Proofs.YtpnfjfbfgaiolaaDoor
