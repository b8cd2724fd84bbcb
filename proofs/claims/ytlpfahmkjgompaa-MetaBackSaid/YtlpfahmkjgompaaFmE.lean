/- frame: the reference's Take and Skip; the laws' head; the laws. No condition beyond the bounds that each states. -/
import Derived.Test.YtlpfahmkjgompaaFmD
namespace Go.Proofs.Ytlpfahmkjgompaa
open Go Go.RowKit
set_option linter.unusedVariables false

set_option maxHeartbeats 2000000 in
theorem rftake_ok (io : Option Addr) (ic : Nat) (im : List UInt8) (a : Int) (W : World) (hv : Vw b8 W.heap io ic im) (hb : im.length ≤ 1099511627776) (ha : a ≤ 9223372036854775807) :
    Calls Try.prog 20 [.slice io im.length ic, .int .i64 a].toArray W (Ret (TkFP W (takeS im a))) := by
  refine calls_of_sc 53 [(0, _), (1, _)] Try.func20 rfl rfl rfl (enter_slots ⟨rfl, rfl, trivial⟩) ?_
  refine Sc.seq ?_
  refine Sc.region ?_
  refine Sl.calm (Cm.assign rfl) rfl ?_
  refine Sl.calm (Cm.assign rfl) rfl ?_
  refine Sl.calm (Cm.assign rfl) rfl ?_
  refine Sl.nil ?_
  refine At.go ?_
  refine Sc.seq ?_
  refine Sc.region ?_
  refine Sl.calm (Cm.move rfl) rfl ?_
  refine Sl.calm (Cm.move rfl) rfl ?_
  refine Sl.call fn51 rfl (rcut_ok io ic im a W hv hb ha) rfl ?_
  rintro _ w1 ⟨po, pc, x, s, st, nx, e, rfl, ho1, hfr1, hf1, hE0, hE1⟩
  refine Sl.calm (Cm.move rfl) rfl ?_
  refine Sl.calm (Cm.extract rfl rfl) rfl ?_
  refine Sl.calm (Cm.extract rfl rfl) rfl ?_
  refine Sl.calm (Cm.extract rfl rfl) rfl ?_
  refine Sl.calm (Cm.extract rfl rfl) rfl ?_
  refine Sl.calm (Cm.extract rfl rfl) rfl ?_
  refine Sl.calm (Cm.assign rfl) rfl ?_
  refine Sl.calm (Cm.assign rfl) rfl ?_
  refine Sl.calm (Cm.assign rfl) rfl ?_
  refine Sl.calm (Cm.assign rfl) rfl ?_
  refine Sl.calm (Cm.assign rfl) rfl ?_
  refine Sl.nil ?_
  refine At.weak [(0, _), (1, _), (4, _), (5, _), (6, _), (7, _), (8, _), (9, _), (10, _), (11, _)] ⟨rfl, rfl, rfl, rfl, rfl, rfl, rfl, rfl, rfl, rfl, trivial⟩ ?_
  refine At.go ?_
  refine Sc.seq ?_
  refine Sc.seq ?_
  refine Sc.region ?_
  refine Sl.calm (Cm.move rfl) rfl ?_
  refine Sl.fork (Cm.neq rfl rfl) rfl (fun h23 => ?_) (fun h23 => ?_)
  ·
    obtain ⟨he2, hnx, hcs⟩ := hE0 h23
    have hT := takeS_none hcs
    refine Sl.calm (Cm.move rfl) rfl ?_
    refine Sl.skip rfl rfl rfl rfl ?_
    refine Sl.skip rfl rfl rfl rfl ?_
    refine Sl.skip rfl rfl rfl rfl ?_
    refine Sl.calm (Cm.pick_t rfl rfl) rfl ?_
    refine Sl.nil ?_
    refine At.weak [(0, _), (1, _), (4, _), (5, _), (6, _), (7, _), (8, _), (9, _), (10, _), (11, _), (28, _)] ⟨rfl, rfl, rfl, rfl, rfl, rfl, rfl, rfl, rfl, rfl, rfl, trivial⟩ ?_
    refine At.go ?_
    refine Sc.cond_t rfl ?_
    refine Sc.seq ?_
    refine Sc.region ?_
    refine Sl.calm (Cm.move rfl) rfl ?_
    refine Sl.calm (Cm.move rfl) rfl ?_
    refine Sl.calm (Cm.assign rfl) rfl ?_
    refine Sl.calm (Cm.assign rfl) rfl ?_
    refine Sl.calm (Cm.assign rfl) rfl ?_
    refine Sl.nil ?_
    refine At.weak [(0, _), (1, _), (4, _), (5, _), (6, _), (7, _), (8, _), (9, _), (10, _), (11, _), (28, _)] ⟨rfl, rfl, rfl, rfl, rfl, rfl, rfl, rfl, rfl, rfl, rfl, trivial⟩ ?_
    refine At.go ?_
    refine Sc.ret ?_
    refine At.then_ret ?_
    refine At.ret3 rfl rfl rfl rfl ?_
    rw [hT]
    first
      | exact ⟨_, rfl, none, 0, by rw [he2, hnx]; rfl, Own.nil, Fr.none, hf1⟩
      | exact ⟨_, rfl, none, 0, by rw [hnx, he]; rfl, Own.nil, Fr.none, hf1⟩
      | exact ⟨_, rfl, none, 0, rfl, Own.nil, Fr.none, hf1⟩
      | exact ⟨_, rfl, po, pc, by rw [hnx], ho1, hfr1, hf1⟩
      | exact ⟨_, rfl, none, 0, rfl, Own.nil, Fr.none, hf1.trans hf5⟩
      | exact ⟨_, rfl, o5, c5, by rw [hnx], ho5, fun b hb => Nat.le_trans hf1.size (hfr5 b hb), hf1.trans hf5⟩
  ·
    have he : e = 0 := Decidable.not_not.1 h23
    obtain ⟨hcs, hnx⟩ := hE1 he
    obtain ⟨hxl, hsl⟩ := cutS_len hcs
    refine Sl.calm (Cm.move rfl) rfl ?_
    refine Sl.want rfl rfl (Cm.move rfl) rfl ?_
    refine Sl.want rfl rfl (Cm.len sl22 rfl) rfl ?_
    refine Sl.forkWant rfl rfl (Cm.eql rfl rfl) rfl (fun h27 => ?_) (fun h27 => ?_)
    ·
      have hT := takeS_empty hcs (by omega)
      refine Sl.calm (Cm.pick_f rfl rfl) rfl ?_
      refine Sl.nil ?_
      refine At.weak [(0, _), (1, _), (4, _), (5, _), (6, _), (7, _), (8, _), (9, _), (10, _), (11, _), (28, _)] ⟨rfl, rfl, rfl, rfl, rfl, rfl, rfl, rfl, rfl, rfl, rfl, trivial⟩ ?_
      refine At.go ?_
      refine Sc.cond_t rfl ?_
      refine Sc.seq ?_
      refine Sc.region ?_
      refine Sl.calm (Cm.move rfl) rfl ?_
      refine Sl.calm (Cm.move rfl) rfl ?_
      refine Sl.calm (Cm.assign rfl) rfl ?_
      refine Sl.calm (Cm.assign rfl) rfl ?_
      refine Sl.calm (Cm.assign rfl) rfl ?_
      refine Sl.nil ?_
      refine At.weak [(0, _), (1, _), (4, _), (5, _), (6, _), (7, _), (8, _), (9, _), (10, _), (11, _), (28, _)] ⟨rfl, rfl, rfl, rfl, rfl, rfl, rfl, rfl, rfl, rfl, rfl, trivial⟩ ?_
      refine At.go ?_
      refine Sc.ret ?_
      refine At.then_ret ?_
      refine At.ret3 rfl rfl rfl rfl ?_
      rw [hT]
      first
        | exact ⟨_, rfl, none, 0, by rw [he2, hnx]; rfl, Own.nil, Fr.none, hf1⟩
        | exact ⟨_, rfl, none, 0, by rw [hnx, he]; rfl, Own.nil, Fr.none, hf1⟩
        | exact ⟨_, rfl, none, 0, rfl, Own.nil, Fr.none, hf1⟩
        | exact ⟨_, rfl, po, pc, by rw [hnx], ho1, hfr1, hf1⟩
        | exact ⟨_, rfl, none, 0, rfl, Own.nil, Fr.none, hf1.trans hf5⟩
        | exact ⟨_, rfl, o5, c5, by rw [hnx], ho5, fun b hb => Nat.le_trans hf1.size (hfr5 b hb), hf1.trans hf5⟩
    ·
      have hx0 : ¬ x.length = 0 := by omega
      refine Sl.calm (Cm.pick_f rfl rfl) rfl ?_
      refine Sl.nil ?_
      refine At.weak [(0, _), (1, _), (4, _), (5, _), (6, _), (7, _), (8, _), (9, _), (10, _), (11, _), (28, _)] ⟨rfl, rfl, rfl, rfl, rfl, rfl, rfl, rfl, rfl, rfl, rfl, trivial⟩ ?_
      refine At.go ?_
      refine Sc.cond_f rfl ?_
      refine Sc.skip ?_
      refine At.go ?_
      refine Sc.seq ?_
      refine Sc.seq ?_
      refine Sc.region ?_
      refine Sl.calm (Cm.move rfl) rfl ?_
      refine Sl.calm (Cm.move rfl) rfl ?_
      have hsx := sumS_lt x
      refine Sl.call fn47 rfl (rsum_ok po pc x w1 ho1.vw) rfl ?_
      rintro _ wq ⟨rfl, hwq⟩
      subst wq
      refine Sl.calm (Cm.convI_in (n := ((sumS x : Nat) : Int)) is25 ty3 rfl (wrap64_id (by omega))) rfl ?_
      refine Sl.fork (Cm.neq rfl rfl) rfl (fun h35 => ?_) (fun h35 => ?_)
      ·
        have hT := takeS_sum hcs hx0 (fun h => h35 (by rw [h]))
        refine Sl.nil ?_
        refine At.weak [(0, _), (1, _), (4, _), (5, _), (6, _), (7, _), (8, _), (9, _), (10, _), (11, _), (28, _), (35, _)] ⟨rfl, rfl, rfl, rfl, rfl, rfl, rfl, rfl, rfl, rfl, rfl, rfl, trivial⟩ ?_
        refine At.go ?_
        refine Sc.cond_t rfl ?_
        refine Sc.seq ?_
        refine Sc.region ?_
        refine Sl.calm (Cm.assign rfl) rfl ?_
        refine Sl.calm (Cm.assign rfl) rfl ?_
        refine Sl.calm (Cm.assign rfl) rfl ?_
        refine Sl.nil ?_
        refine At.go ?_
        refine Sc.ret ?_
        refine At.then_ret ?_
        refine At.ret3 rfl rfl rfl rfl ?_
        rw [hT]
        first
          | exact ⟨_, rfl, none, 0, by rw [he2, hnx]; rfl, Own.nil, Fr.none, hf1⟩
          | exact ⟨_, rfl, none, 0, by rw [hnx, he]; rfl, Own.nil, Fr.none, hf1⟩
          | exact ⟨_, rfl, none, 0, rfl, Own.nil, Fr.none, hf1⟩
          | exact ⟨_, rfl, po, pc, by rw [hnx], ho1, hfr1, hf1⟩
          | exact ⟨_, rfl, none, 0, rfl, Own.nil, Fr.none, hf1.trans hf5⟩
          | exact ⟨_, rfl, o5, c5, by rw [hnx], ho5, fun b hb => Nat.le_trans hf1.size (hfr5 b hb), hf1.trans hf5⟩
      ·
        have hsum : ¬ sumS x ≠ s := fun h => h35 (fun h2 => h (by omega))
        refine Sl.nil ?_
        refine At.weak [(0, _), (1, _), (4, _), (5, _), (6, _), (7, _), (8, _), (9, _), (10, _), (11, _), (28, _), (35, _)] ⟨rfl, rfl, rfl, rfl, rfl, rfl, rfl, rfl, rfl, rfl, rfl, rfl, trivial⟩ ?_
        refine At.go ?_
        refine Sc.cond_f rfl ?_
        refine Sc.skip ?_
        refine At.go ?_
        refine Sc.seq ?_
        refine Sc.seq ?_
        refine Sc.region ?_
        refine Sl.fork (Cm.ofBool (Cm.move rfl)) rfl (fun h36 => ?_) (fun h36 => ?_)
        ·
          have hT := takeS_stored hcs hx0 hsum h36
          refine Sl.nil ?_
          refine At.go ?_
          refine Sc.cond_t rfl ?_
          refine Sc.seq ?_
          refine Sc.region ?_
          refine Sl.calm (Cm.move rfl) rfl ?_
          refine Sl.calm (Cm.move rfl) rfl ?_
          refine Sl.calm (Cm.assign rfl) rfl ?_
          refine Sl.calm (Cm.assign rfl) rfl ?_
          refine Sl.calm (Cm.assign rfl) rfl ?_
          refine Sl.nil ?_
          refine At.weak [(0, _), (1, _), (4, _), (5, _), (6, _), (7, _), (8, _), (9, _), (10, _), (11, _), (28, _), (35, _), (36, _)] ⟨rfl, rfl, rfl, rfl, rfl, rfl, rfl, rfl, rfl, rfl, rfl, rfl, rfl, trivial⟩ ?_
          refine At.go ?_
          refine Sc.ret ?_
          refine At.then_ret ?_
          refine At.ret3 rfl rfl rfl rfl ?_
          rw [hT]
          first
            | exact ⟨_, rfl, none, 0, by rw [he2, hnx]; rfl, Own.nil, Fr.none, hf1⟩
            | exact ⟨_, rfl, none, 0, by rw [hnx, he]; rfl, Own.nil, Fr.none, hf1⟩
            | exact ⟨_, rfl, none, 0, rfl, Own.nil, Fr.none, hf1⟩
            | exact ⟨_, rfl, po, pc, by rw [hnx], ho1, hfr1, hf1⟩
            | exact ⟨_, rfl, none, 0, rfl, Own.nil, Fr.none, hf1.trans hf5⟩
            | exact ⟨_, rfl, o5, c5, by rw [hnx], ho5, fun b hb => Nat.le_trans hf1.size (hfr5 b hb), hf1.trans hf5⟩
        ·
          refine Sl.nil ?_
          refine At.go ?_
          refine Sc.cond_f rfl ?_
          refine Sc.skip ?_
          refine At.go ?_
          refine Sc.seq ?_
          refine Sc.region ?_
          refine Sl.calm (Cm.move rfl) rfl ?_
          refine Sl.call fn52 rfl (runpack_ok po pc x 128 w1 ho1.vw (by omega) (by decide)) rfl ?_
          rw [upS_128]
          rintro _ w5 ⟨o5, c5, rfl, ho5, hfr5, hf5⟩
          refine Sl.calm (Cm.move rfl) rfl ?_
          refine Sl.calm (Cm.extract rfl rfl) rfl ?_
          refine Sl.calm (Cm.extract rfl rfl) rfl ?_
          refine Sl.calm (Cm.assign rfl) rfl ?_
          refine Sl.calm (Cm.assign rfl) rfl ?_
          refine Sl.nil ?_
          refine At.weak [(0, _), (1, _), (4, _), (5, _), (6, _), (7, _), (8, _), (9, _), (10, _), (11, _), (12, _), (28, _), (35, _), (36, _)] ⟨rfl, rfl, rfl, rfl, rfl, rfl, rfl, rfl, rfl, rfl, rfl, rfl, rfl, rfl, trivial⟩ ?_
          refine At.go ?_
          refine Sc.seq ?_
          refine Sc.seq ?_
          refine Sc.region ?_
          refine Sl.calm (Cm.move rfl) rfl ?_
          refine Sl.fork (Cm.neq rfl rfl) rfl (fun h45 => ?_) (fun h45 => ?_)
          ·
            have hT := takeS_bad hcs hx0 hsum h36 (.inl h45)
            refine Sl.calm (Cm.move rfl) rfl ?_
            refine Sl.skip rfl rfl rfl rfl ?_
            refine Sl.skip rfl rfl rfl rfl ?_
            refine Sl.skip rfl rfl rfl rfl ?_
            refine Sl.calm (Cm.pick_t rfl rfl) rfl ?_
            refine Sl.nil ?_
            refine At.weak [(0, _), (1, _), (4, _), (5, _), (6, _), (7, _), (8, _), (9, _), (10, _), (11, _), (12, _), (28, _), (35, _), (36, _), (50, _)] ⟨rfl, rfl, rfl, rfl, rfl, rfl, rfl, rfl, rfl, rfl, rfl, rfl, rfl, rfl, rfl, trivial⟩ ?_
            refine At.go ?_
            refine Sc.cond_t rfl ?_
            refine Sc.seq ?_
            refine Sc.region ?_
            refine Sl.calm (Cm.assign rfl) rfl ?_
            refine Sl.calm (Cm.assign rfl) rfl ?_
            refine Sl.calm (Cm.assign rfl) rfl ?_
            refine Sl.nil ?_
            refine At.go ?_
            refine Sc.ret ?_
            refine At.then_ret ?_
            refine At.ret3 rfl rfl rfl rfl ?_
            rw [hT]
            first
              | exact ⟨_, rfl, none, 0, by rw [he2, hnx]; rfl, Own.nil, Fr.none, hf1⟩
              | exact ⟨_, rfl, none, 0, by rw [hnx, he]; rfl, Own.nil, Fr.none, hf1⟩
              | exact ⟨_, rfl, none, 0, rfl, Own.nil, Fr.none, hf1⟩
              | exact ⟨_, rfl, po, pc, by rw [hnx], ho1, hfr1, hf1⟩
              | exact ⟨_, rfl, none, 0, rfl, Own.nil, Fr.none, hf1.trans hf5⟩
              | exact ⟨_, rfl, o5, c5, by rw [hnx], ho5, fun b hb => Nat.le_trans hf1.size (hfr5 b hb), hf1.trans hf5⟩
          ·
            have hu0 : (up 128 x []).2 = 0 := Decidable.not_not.1 h45
            refine Sl.calm (Cm.move rfl) rfl ?_
            refine Sl.want rfl rfl (Cm.move rfl) rfl ?_
            refine Sl.want rfl rfl (Cm.len sl22 rfl) rfl ?_
            refine Sl.forkWant rfl rfl (Cm.eql rfl rfl) rfl (fun h49 => ?_) (fun h49 => ?_)
            ·
              have hT := takeS_bad hcs hx0 hsum h36 (.inr (by omega))
              refine Sl.calm (Cm.pick_f rfl rfl) rfl ?_
              refine Sl.nil ?_
              refine At.weak [(0, _), (1, _), (4, _), (5, _), (6, _), (7, _), (8, _), (9, _), (10, _), (11, _), (12, _), (28, _), (35, _), (36, _), (50, _)] ⟨rfl, rfl, rfl, rfl, rfl, rfl, rfl, rfl, rfl, rfl, rfl, rfl, rfl, rfl, rfl, trivial⟩ ?_
              refine At.go ?_
              refine Sc.cond_t rfl ?_
              refine Sc.seq ?_
              refine Sc.region ?_
              refine Sl.calm (Cm.assign rfl) rfl ?_
              refine Sl.calm (Cm.assign rfl) rfl ?_
              refine Sl.calm (Cm.assign rfl) rfl ?_
              refine Sl.nil ?_
              refine At.go ?_
              refine Sc.ret ?_
              refine At.then_ret ?_
              refine At.ret3 rfl rfl rfl rfl ?_
              rw [hT]
              first
                | exact ⟨_, rfl, none, 0, by rw [he2, hnx]; rfl, Own.nil, Fr.none, hf1⟩
                | exact ⟨_, rfl, none, 0, by rw [hnx, he]; rfl, Own.nil, Fr.none, hf1⟩
                | exact ⟨_, rfl, none, 0, rfl, Own.nil, Fr.none, hf1⟩
                | exact ⟨_, rfl, po, pc, by rw [hnx], ho1, hfr1, hf1⟩
                | exact ⟨_, rfl, none, 0, rfl, Own.nil, Fr.none, hf1.trans hf5⟩
                | exact ⟨_, rfl, o5, c5, by rw [hnx], ho5, fun b hb => Nat.le_trans hf1.size (hfr5 b hb), hf1.trans hf5⟩
            ·
              have hT := takeS_lz hcs hx0 hsum h36 (by rintro (h | h); exact h hu0; omega)
              refine Sl.calm (Cm.pick_f rfl rfl) rfl ?_
              refine Sl.nil ?_
              refine At.weak [(0, _), (1, _), (4, _), (5, _), (6, _), (7, _), (8, _), (9, _), (10, _), (11, _), (12, _), (28, _), (35, _), (36, _), (50, _)] ⟨rfl, rfl, rfl, rfl, rfl, rfl, rfl, rfl, rfl, rfl, rfl, rfl, rfl, rfl, rfl, trivial⟩ ?_
              refine At.go ?_
              refine Sc.cond_f rfl ?_
              refine Sc.skip ?_
              refine At.go ?_
              refine Sc.seq ?_
              refine Sc.region ?_
              refine Sl.calm (Cm.move rfl) rfl ?_
              refine Sl.calm (Cm.move rfl) rfl ?_
              refine Sl.calm (Cm.assign rfl) rfl ?_
              refine Sl.calm (Cm.assign rfl) rfl ?_
              refine Sl.calm (Cm.assign rfl) rfl ?_
              refine Sl.nil ?_
              refine At.weak [(0, _), (1, _), (4, _), (5, _), (6, _), (7, _), (8, _), (9, _), (10, _), (11, _), (12, _), (28, _), (35, _), (36, _), (50, _)] ⟨rfl, rfl, rfl, rfl, rfl, rfl, rfl, rfl, rfl, rfl, rfl, rfl, rfl, rfl, rfl, trivial⟩ ?_
              refine At.go ?_
              refine Sc.ret ?_
              refine At.ret3 rfl rfl rfl rfl ?_
              rw [hT]
              first
                | exact ⟨_, rfl, none, 0, by rw [he2, hnx]; rfl, Own.nil, Fr.none, hf1⟩
                | exact ⟨_, rfl, none, 0, by rw [hnx, he]; rfl, Own.nil, Fr.none, hf1⟩
                | exact ⟨_, rfl, none, 0, rfl, Own.nil, Fr.none, hf1⟩
                | exact ⟨_, rfl, po, pc, by rw [hnx], ho1, hfr1, hf1⟩
                | exact ⟨_, rfl, none, 0, rfl, Own.nil, Fr.none, hf1.trans hf5⟩
                | exact ⟨_, rfl, o5, c5, by rw [hnx], ho5, fun b hb => Nat.le_trans hf1.size (hfr5 b hb), hf1.trans hf5⟩
theorem rfskip_ok (io : Option Addr) (ic : Nat) (im : List UInt8) (a : Int) (W : World) (hv : Vw b8 W.heap io ic im) (hb : im.length ≤ 1099511627776) (ha : a ≤ 9223372036854775807) :
    Calls Try.prog 22 [.slice io im.length ic, .int .i64 a].toArray W (Ret fun v w' => v = .tuple #[.int .i64 (skipS im a).1, .int .i64 (skipS im a).2] ∧ Foot nob W w') := by
  refine calls_of_sc 22 [(0, _), (1, _)] Try.func22 rfl rfl rfl (enter_slots ⟨rfl, rfl, trivial⟩) ?_
  refine Sc.seq ?_
  refine Sc.region ?_
  refine Sl.calm (Cm.assign rfl) rfl ?_
  refine Sl.calm (Cm.assign rfl) rfl ?_
  refine Sl.nil ?_
  refine At.go ?_
  refine Sc.seq ?_
  refine Sc.region ?_
  refine Sl.calm (Cm.move rfl) rfl ?_
  refine Sl.calm (Cm.move rfl) rfl ?_
  refine Sl.call fn51 rfl (rcut_ok io ic im a W hv hb ha) rfl ?_
  rintro _ w1 ⟨po, pc, x, s, st, nx, e, rfl, ho1, hfr1, hf1, hE0, hE1⟩
  have hsk : skipS im a = (nx, e) := by
    by_cases he : e = 0
    · obtain ⟨hcs, hnx⟩ := hE1 he
      rw [skipS_some hcs, hnx, he]
    · obtain ⟨he2, hnx, hcs⟩ := hE0 he
      rw [skipS_none hcs, hnx, he2]
  refine Sl.calm (Cm.move rfl) rfl ?_
  refine Sl.calm (Cm.extract rfl rfl) rfl ?_
  refine Sl.calm (Cm.extract rfl rfl) rfl ?_
  refine Sl.calm (Cm.extract rfl rfl) rfl ?_
  refine Sl.calm (Cm.extract rfl rfl) rfl ?_
  refine Sl.calm (Cm.extract rfl rfl) rfl ?_
  refine Sl.calm (Cm.assign rfl) rfl ?_
  refine Sl.calm (Cm.assign rfl) rfl ?_
  refine Sl.calm (Cm.assign rfl) rfl ?_
  refine Sl.calm (Cm.assign rfl) rfl ?_
  refine Sl.calm (Cm.assign rfl) rfl ?_
  refine Sl.nil ?_
  refine At.weak [(0, _), (1, _), (4, _), (5, _), (9, _), (10, _)] ⟨rfl, rfl, rfl, rfl, rfl, rfl, trivial⟩ ?_
  refine At.go ?_
  refine Sc.seq ?_
  refine Sc.region ?_
  refine Sl.calm (Cm.move rfl) rfl ?_
  refine Sl.calm (Cm.move rfl) rfl ?_
  refine Sl.calm (Cm.assign rfl) rfl ?_
  refine Sl.calm (Cm.assign rfl) rfl ?_
  refine Sl.nil ?_
  refine At.weak [(0, _), (1, _), (4, _), (5, _), (9, _), (10, _)] ⟨rfl, rfl, rfl, rfl, rfl, rfl, trivial⟩ ?_
  refine At.go ?_
  refine Sc.ret ?_
  refine At.ret2 rfl rfl rfl ?_
  rw [hsk]
  exact ⟨_, rfl, rfl, hf1⟩

theorem few4_ok (ao : Option Addr) (cap : Nat) (b : List UInt8) (n : Nat) (W : World) (hv : Vw b8 W.heap ao cap b) :
    Calls Try.prog 15 [.slice ao b.length cap, .int .i64 n].toArray W (Ret fun v w' => v = .slice ao (b.take n).length cap ∧ w' = W) := by
  have hle := hv.le
  refine calls_of_sc 13 [(0, _), (1, _)] Try.func15 rfl rfl rfl (enter_slots ⟨rfl, rfl, trivial⟩) ?_
  refine Sc.seq ?_
  refine Sc.region ?_
  refine Sl.calm (Cm.assign rfl) rfl ?_
  refine Sl.nil ?_
  refine At.go ?_
  refine Sc.seq ?_
  refine Sc.seq ?_
  refine Sc.region ?_
  refine Sl.calm (Cm.move rfl) rfl ?_
  refine Sl.calm (Cm.len sl22 rfl) rfl ?_
  refine Sl.calm (Cm.move rfl) rfl ?_
  refine Sl.fork (Cm.gtr rfl rfl) rfl (fun h8 => ?_) (fun h8 => ?_)
  ·
    refine Sl.nil ?_
    refine At.weak [(0, _), (1, _), (4, _), (8, _)] ⟨rfl, rfl, rfl, rfl, trivial⟩ ?_
    refine At.go ?_
    refine Sc.cond_t rfl ?_
    refine Sc.seq ?_
    refine Sc.region ?_
    refine Sl.calm (Cm.move rfl) rfl ?_
    refine Sl.calm (Cm.move rfl) rfl ?_
    refine Sl.calm (Cm.sliceH sl22 rfl rfl (by omega)) rfl ?_
    refine Sl.calm (Cm.assign rfl) rfl ?_
    refine Sl.nil ?_
    refine At.weak [(0, _), (1, _), (4, _), (8, _)] ⟨rfl, rfl, rfl, rfl, trivial⟩ ?_
    refine At.go ?_
    refine Sc.ret ?_
    refine At.then_ret ?_
    refine At.ret1 rfl rfl ?_
    first
      | (refine ⟨_, rfl, ?_, rfl⟩
         rw [cutAo_zero, List.length_take, show min n b.length = n by omega]; rfl)
      | (refine ⟨_, rfl, ?_, rfl⟩
         rw [List.take_of_length_le (by omega)])
  ·
    refine Sl.nil ?_
    refine At.weak [(0, _), (1, _), (4, _), (8, _)] ⟨rfl, rfl, rfl, rfl, trivial⟩ ?_
    refine At.go ?_
    refine Sc.cond_f rfl ?_
    refine Sc.skip ?_
    refine At.go ?_
    refine Sc.seq ?_
    refine Sc.region ?_
    refine Sl.calm (Cm.move rfl) rfl ?_
    refine Sl.calm (Cm.assign rfl) rfl ?_
    refine Sl.nil ?_
    refine At.weak [(0, _), (1, _), (4, _), (8, _)] ⟨rfl, rfl, rfl, rfl, trivial⟩ ?_
    refine At.go ?_
    refine Sc.ret ?_
    refine At.ret1 rfl rfl ?_
    first
      | (refine ⟨_, rfl, ?_, rfl⟩
         rw [cutAo_zero, List.length_take, show min n b.length = n by omega]; rfl)
      | (refine ⟨_, rfl, ?_, rfl⟩
         rw [List.take_of_length_le (by omega)])

theorem rn_sh {out l : List UInt8} (h0 : 0 < l.length) (h : l.length ≤ 128) : rn out l = out ++ UInt8.ofNat (l.length - 1) :: l := by
  rw [rn_step h0, show min l.length 128 = l.length by omega, List.take_of_length_le (Nat.le_refl _), List.drop_of_length_le (Nat.le_refl _), rn_nil]
def exF : List UInt8 := [2, 128, 125, 109, 72, 131, 158, 97, 98]
theorem ex_put0 : putS [] = ([0, 0, 255], 0) := by decide +kernel
theorem ex_put2 : putS [97, 98] = (exF, 0) := by
  have hp : pkS [97, 98] = [1, 97, 98] := by
    unfold pkS
    rw [pk_one (by decide) (by decide +kernel), pk_one (by decide) (by decide +kernel), pk_end (by decide), rn_sh (by decide) (by decide)]
    rfl
  unfold putS
  rw [if_neg (by decide), if_neg (by decide), hp, if_neg (by decide)]
  decide +kernel
theorem takeS_put {b : List UInt8} (h : b.length ≤ 128) (pre rest : List UInt8) : takeS (pre ++ ((putS b).1 ++ rest)) pre.length = (b, (pre.length : Int) + (putS b).1.length, 0) ∧ skipS (pre ++ ((putS b).1 ++ rest)) pre.length = ((pre.length : Int) + (putS b).1.length, 0) := by
  obtain ⟨h1, _, h3⟩ := take_frame h rest
  have hc : cutS (pre ++ ((putS b).1 ++ rest)) (pre.length : Int) = cutP ((putS b).1 ++ rest) := by
    unfold cutS
    rw [if_neg (by rw [List.length_append]; omega), show ((pre.length : Nat) : Int).toNat = pre.length from rfl, List.drop_left' rfl]
  refine ⟨?_, ?_⟩
  · unfold takeS
    rw [hc, h1]; rfl
  · unfold skipS
    rw [hc]
    split at h3
    · rename_i hn
      rw [hn] at h1
      unfold takeC at h1
      simp only [Prod.mk.injEq] at h1
      omega
    · rename_i x s st hn
      simp only [h3]
theorem ex_take : takeS exF 0 = ([97, 98], 9, 0) := by have := (takeS_put (b := [97, 98]) (by decide) [] []).1; rw [ex_put2] at this; exact this
theorem ex_cut : cutS exF 1 = none := by decide +kernel
theorem ex_none4 : takeS exF 1 = ([], 0, 2) := takeS_none ex_cut

set_option maxHeartbeats 1000000 in
theorem shown04_ok (W : World) : Calls Try.prog 14 [].toArray W (Ret fun v w' => v = .bool true ∧ Foot nob W w') := by
  refine calls_of_sc 74 [] Try.func14 rfl rfl rfl (enter_slots trivial) ?_
  refine Sc.seq ?_
  refine Sc.region ?_
  refine Sl.calm (Cm.assign rfl) rfl ?_
  refine Sl.nil ?_
  refine At.go ?_
  refine Sc.seq ?_
  refine Sc.region ?_
  refine Sl.call fn16 rfl (crcnew_ok W) rfl ?_
  rintro _ w1 ⟨rfl, hf1⟩
  refine Sl.allocC zc27 rfl ?_
  intro w2 hg2 hs2 hf2
  refine Sl.storeAll (vs := tab) aggTab rfl rfl tab_one hg2 (by rw [tab_len, List.length_replicate]) ?_
  intro w3 hg3 hs3 hf3
  obtain ⟨p, hp⟩ : ∃ p, p = w1.heap.size := ⟨_, rfl⟩
  have hF3 : Foot nob W w3 := (hf1.trans hf2).trans_to hf3 (fun k hk => .inr (by have h : k = w1.heap.size := hk; have := hf1.size; omega))
  rw [← hp] at hg3 ⊢
  have ht3 : TbV w3.heap p := hg3
  refine Sl.nil ?_
  refine At.weak [(0, _), (1, _)] ⟨rfl, rfl, trivial⟩ ?_
  refine At.go ?_
  refine Sc.seq ?_
  refine Sc.region ?_
  refine Sl.call fn17 rfl (fput_ok p none 0 [] w3 ht3 (Vw.nil 0 (Nat.zero_le _))) rfl ?_
  rw [ex_put0]
  rintro _ w4 ⟨o4, c4, rfl, ho4, hfr4, hf4⟩
  refine Sl.calm (Cm.move rfl) rfl ?_
  refine Sl.calm (Cm.extract rfl rfl) rfl ?_
  refine Sl.calm (Cm.extract rfl rfl) rfl ?_
  refine Sl.calm (Cm.assign rfl) rfl ?_
  refine Sl.calm (Cm.assign rfl) rfl ?_
  refine Sl.nil ?_
  refine At.weak [(0, _), (1, _), (2, _), (3, _)] ⟨rfl, rfl, rfl, rfl, trivial⟩ ?_
  refine At.go ?_
  refine Sc.seq ?_
  refine Sc.region ?_
  refine Sl.lit2 (enc := b8) (u := (97 : UInt8)) (u' := (98 : UInt8)) sl22 b8_one rfl rfl rfl ?_
  intro w5 ho5 hs5 hf5
  obtain ⟨cur, hcur⟩ := ho5.obj
  refine Sl.markB sl22 ty5 (xs := [97, 98]) rfl hcur ho5.vw rfl ?_
  intro w6 hv6 hs6 hf6
  have hF36 : Foot nob w3 w6 := (hf4.trans hf5).trans_to hf6 (fun k hk => .inr (by have h : k = w4.heap.size := hk; have := hf4.size; omega))
  have ht6 : TbV w6.heap p := hF36.obj ht3 id
  have ho46 := (ho4.grow hf5).keep hf6 (fun b hb h => by have := ho4.lt b hb; have h : b.block = w4.heap.size := h; omega)
  refine Sl.call fn17 rfl (fput_ok p _ _ [97, 98] w6 ht6 hv6) rfl ?_
  rw [ex_put2]
  rintro _ w7 ⟨o7, c7, rfl, ho7, hfr7, hf7⟩
  have ht7 : TbV w7.heap p := hf7.obj ht6 id
  refine Sl.calm (Cm.move rfl) rfl ?_
  refine Sl.calm (Cm.extract rfl rfl) rfl ?_
  refine Sl.calm (Cm.extract rfl rfl) rfl ?_
  refine Sl.calm (Cm.assign rfl) rfl ?_
  refine Sl.calm (Cm.assign rfl) rfl ?_
  refine Sl.nil ?_
  refine At.weak [(0, _), (1, _), (2, _), (3, _), (4, _), (5, _)] ⟨rfl, rfl, rfl, rfl, rfl, rfl, trivial⟩ ?_
  refine At.go ?_
  refine Sc.seq ?_
  refine Sc.region ?_
  refine Sl.calm (Cm.move rfl) rfl ?_
  refine Sl.call fn19 rfl (ftake_ok p o7 c7 exF 0 w7 ht7 ho7.vw (by decide) (by decide)) rfl ?_
  rw [ex_take]
  rintro _ w8 ⟨o8, c8, rfl, ho8, hfr8, hf8⟩
  have ht8 : TbV w8.heap p := hf8.obj ht7 id
  have ho78 := ho7.grow hf8
  refine Sl.calm (Cm.move rfl) rfl ?_
  refine Sl.calm (Cm.extract rfl rfl) rfl ?_
  refine Sl.calm (Cm.extract rfl rfl) rfl ?_
  refine Sl.calm (Cm.extract rfl rfl) rfl ?_
  refine Sl.calm (Cm.assign rfl) rfl ?_
  refine Sl.calm (Cm.assign rfl) rfl ?_
  refine Sl.calm (Cm.assign rfl) rfl ?_
  refine Sl.nil ?_
  refine At.weak [(0, _), (1, _), (2, _), (3, _), (4, _), (5, _), (6, _), (7, _), (8, _)] ⟨rfl, rfl, rfl, rfl, rfl, rfl, rfl, rfl, rfl, trivial⟩ ?_
  refine At.go ?_
  refine Sc.seq ?_
  refine Sc.region ?_
  refine Sl.calm (Cm.move rfl) rfl ?_
  refine Sl.call fn19 rfl (ftake_ok p o7 c7 exF 1 w8 ht8 ho78.vw (by decide) (by decide)) rfl ?_
  rw [ex_none4]
  rintro _ w9 ⟨o9, c9, rfl, ho9, hfr9, hf9⟩
  have ho49 := (ho46.grow hf7).grow (hf8.trans hf9)
  have ho79 := ho78.grow hf9
  have hle79 : 9 ≤ c7 := ho79.vw.le
  have ho89 := ho8.grow hf9
  refine Sl.calm (Cm.move rfl) rfl ?_
  refine Sl.calm (Cm.extract rfl rfl) rfl ?_
  refine Sl.calm (Cm.extract rfl rfl) rfl ?_
  refine Sl.calm (Cm.extract rfl rfl) rfl ?_
  refine Sl.calm (Cm.assign rfl) rfl ?_
  refine Sl.calm (Cm.assign rfl) rfl ?_
  refine Sl.calm (Cm.assign rfl) rfl ?_
  refine Sl.nil ?_
  refine At.weak [(0, _), (1, _), (2, _), (3, _), (4, _), (5, _), (6, _), (7, _), (8, _), (11, _)] ⟨rfl, rfl, rfl, rfl, rfl, rfl, rfl, rfl, rfl, rfl, trivial⟩ ?_
  refine At.go ?_
  refine Sc.seq ?_
  refine Sc.region ?_
  refine Sl.calm (Cm.move rfl) rfl ?_
  refine Sl.calm (Cm.strIn sl22 ty5 ty9 rfl ho49.vw) rfl ?_
  refine Sl.calm (Cm.yes (Cm.eqlBs rfl rfl) rfl) rfl ?_
  refine Sl.calm (Cm.move rfl) rfl ?_
  refine Sl.want rfl rfl (Cm.move rfl) rfl ?_
  refine Sl.want rfl rfl (Cm.yes (Cm.eql rfl rfl) rfl) rfl ?_
  refine Sl.calm (Cm.pick_t rfl rfl) rfl ?_
  refine Sl.calm (Cm.move rfl) rfl ?_
  refine Sl.want rfl rfl (Cm.move rfl) rfl ?_
  refine Sl.want rfl rfl (Cm.len sl22 rfl) rfl ?_
  refine Sl.want rfl rfl (Cm.yes (Cm.eql rfl rfl) rfl) rfl ?_
  refine Sl.calm (Cm.pick_t rfl rfl) rfl ?_
  refine Sl.calm (Cm.move rfl) rfl ?_
  refine Sl.want rfl rfl (Cm.move rfl) rfl ?_
  refine Sl.want rfl rfl (Cm.sliceH sl22 rfl rfl (by omega)) rfl ?_
  rw [cutAo_zero, show Int.toNat 3 = (exF.take 3).length from rfl]
  refine Sl.want rfl rfl (Cm.strIn sl22 ty5 ty9 rfl (ho79.vw.take 3)) rfl ?_
  refine Sl.want rfl rfl (Cm.yes (Cm.eqlBs rfl rfl) rfl) rfl ?_
  refine Sl.calm (Cm.pick_t rfl rfl) rfl ?_
  refine Sl.calm (Cm.move rfl) rfl ?_
  refine Sl.want rfl rfl (Cm.move rfl) rfl ?_
  refine Sl.want rfl rfl (Cm.yes (Cm.eql rfl rfl) rfl) rfl ?_
  refine Sl.calm (Cm.pick_t rfl rfl) rfl ?_
  refine Sl.calm (Cm.move rfl) rfl ?_
  refine Sl.want rfl rfl (Cm.move rfl) rfl ?_
  refine Sl.want rfl rfl (Cm.strIn sl22 ty5 ty9 rfl ho89.vw) rfl ?_
  refine Sl.want rfl rfl (Cm.yes (Cm.eqlBs rfl rfl) rfl) rfl ?_
  refine Sl.calm (Cm.pick_t rfl rfl) rfl ?_
  refine Sl.calm (Cm.move rfl) rfl ?_
  refine Sl.want rfl rfl (Cm.move rfl) rfl ?_
  refine Sl.want rfl rfl (Cm.yes (Cm.eql rfl rfl) rfl) rfl ?_
  refine Sl.calm (Cm.pick_t rfl rfl) rfl ?_
  refine Sl.calm (Cm.move rfl) rfl ?_
  refine Sl.want rfl rfl (Cm.move rfl) rfl ?_
  refine Sl.want rfl rfl (Cm.yes (Cm.eql rfl rfl) rfl) rfl ?_
  refine Sl.calm (Cm.pick_t rfl rfl) rfl ?_
  refine Sl.calm (Cm.move rfl) rfl ?_
  refine Sl.want rfl rfl (Cm.move rfl) rfl ?_
  refine Sl.want rfl rfl (Cm.yes (Cm.eql rfl rfl) rfl) rfl ?_
  refine Sl.calm (Cm.pick_t rfl rfl) rfl ?_
  refine Sl.calm (Cm.assign rfl) rfl ?_
  refine Sl.nil ?_
  refine At.weak [(0, _), (1, _), (2, _), (3, _), (4, _), (5, _), (6, _), (7, _), (8, _), (11, _)] ⟨rfl, rfl, rfl, rfl, rfl, rfl, rfl, rfl, rfl, rfl, trivial⟩ ?_
  refine At.go ?_
  refine Sc.ret ?_
  refine At.ret1 rfl rfl ?_
  exact ⟨_, rfl, rfl, (((hF3.trans hF36).trans hf7).trans hf8).trans hf9⟩

set_option maxHeartbeats 1000000 in
theorem framePuts_ok (b0 : List UInt8) (ao : Option Addr) (cap : Nat) (W : World) (hv0 : Vw b8 W.heap ao cap b0) :
    Calls Try.prog 3 [.slice ao b0.length cap].toArray W (Ret fun v w' => v = .bool true ∧ Foot nob W w') := by
  refine calls_of_sc 47 [(0, _)] Try.func3 rfl rfl rfl (enter_slots ⟨rfl, trivial⟩) ?_
  refine Sc.seq ?_
  refine Sc.region ?_
  refine Sl.calm (Cm.assign rfl) rfl ?_
  refine Sl.nil ?_
  refine At.go ?_
  refine Sc.seq ?_
  refine Sc.region ?_
  refine Sl.call fn14 rfl (shown04_ok W) rfl ?_
  rintro _ w1 ⟨rfl, hf1⟩
  refine Sl.calm (Cm.assign rfl) rfl ?_
  refine Sl.nil ?_
  refine At.weak [(0, _), (2, _), (3, _)] ⟨rfl, rfl, rfl, trivial⟩ ?_
  refine At.go ?_
  refine Sc.seq ?_
  refine Sc.region ?_
  refine Sl.calm (Cm.move rfl) rfl ?_
  refine Sl.call fn15 rfl (few4_ok ao cap b0 200 w1 (hv0.grow hf1)) rfl ?_
  rintro _ wq ⟨rfl, hwq⟩
  subst wq
  obtain ⟨b, hb⟩ : ∃ b, b = b0.take 200 := ⟨_, rfl⟩
  have hbl : b.length ≤ 200 := by rw [hb, List.length_take]; omega
  have hv : Vw b8 w1.heap ao cap b := by rw [hb]; exact (hv0.grow hf1).take 200
  rw [← hb]
  refine Sl.calm (Cm.assign rfl) rfl ?_
  refine Sl.nil ?_
  refine At.weak [(0, _), (2, _), (3, _)] ⟨rfl, rfl, rfl, trivial⟩ ?_
  refine At.go ?_
  refine Sc.seq ?_
  refine Sc.region ?_
  refine Sl.lit0 b8 sl22 rfl ?_
  intro w2 ho2 hs2 hf2
  refine Sl.calm (Cm.move rfl) rfl ?_
  refine Sl.append b8_one sl22 rfl rfl ho2 (hv.grow hf2) (by simp; omega) (by simp; unfold maxLen; omega) rfl ?_
  intro o3 c3 w3 ho3 hf3 hr3 hn3
  rw [List.nil_append] at ho3 ⊢
  have hF3 : Foot nob w1 w3 := hf2.trans_to hf3 (fr_at _).step
  refine Sl.calm (Cm.assign rfl) rfl ?_
  refine Sl.nil ?_
  refine At.weak [(0, _), (2, _), (3, _), (4, _)] ⟨rfl, rfl, rfl, rfl, trivial⟩ ?_
  refine At.go ?_
  refine Sc.seq ?_
  refine Sc.region ?_
  refine Sl.call fn16 rfl (crcnew_ok w3) rfl ?_
  rintro _ w4 ⟨rfl, hf4⟩
  refine Sl.allocC zc27 rfl ?_
  intro w5 hg5 hs5 hf5
  refine Sl.storeAll (vs := tab) aggTab rfl rfl tab_one hg5 (by rw [tab_len, List.length_replicate]) ?_
  intro w6 hg6 hs6 hf6
  obtain ⟨p, hp⟩ : ∃ p, p = w4.heap.size := ⟨_, rfl⟩
  have hF36 : Foot nob w3 w6 := (hf4.trans hf5).trans_to hf6 (fun k hk => .inr (by have h : k = w4.heap.size := hk; have := hf4.size; omega))
  rw [← hp] at hg6 ⊢
  have ht6 : TbV w6.heap p := hg6
  have ho36 := ho3.grow hF36
  refine Sl.nil ?_
  refine At.weak [(0, _), (2, _), (3, _), (4, _), (5, _)] ⟨rfl, rfl, rfl, rfl, rfl, trivial⟩ ?_
  refine At.go ?_
  refine Sc.seq ?_
  refine Sc.region ?_
  refine Sl.calm (Cm.move rfl) rfl ?_
  refine Sl.call fn17 rfl (fput_ok p o3 c3 b w6 ht6 ho36.vw) rfl ?_
  rintro _ w7 ⟨o7, c7, rfl, ho7, hfr7, hf7⟩
  refine Sl.calm (Cm.move rfl) rfl ?_
  refine Sl.calm (Cm.extract rfl rfl) rfl ?_
  refine Sl.calm (Cm.extract rfl rfl) rfl ?_
  refine Sl.calm (Cm.assign rfl) rfl ?_
  refine Sl.calm (Cm.assign rfl) rfl ?_
  refine Sl.nil ?_
  refine At.weak [(0, _), (2, _), (3, _), (4, _), (5, _), (6, _), (7, _)] ⟨rfl, rfl, rfl, rfl, rfl, rfl, rfl, trivial⟩ ?_
  refine At.go ?_
  refine Sc.seq ?_
  refine Sc.region ?_
  refine Sl.calm (Cm.move rfl) rfl ?_
  refine Sl.call fn18 rfl (rfput_ok ao cap b w7 (((hv.grow hF3).grow hF36).grow hf7)) rfl ?_
  rintro _ w8 ⟨o8, c8, rfl, ho8, hfr8, hf8⟩
  refine Sl.calm (Cm.move rfl) rfl ?_
  refine Sl.calm (Cm.extract rfl rfl) rfl ?_
  refine Sl.calm (Cm.extract rfl rfl) rfl ?_
  refine Sl.calm (Cm.assign rfl) rfl ?_
  refine Sl.calm (Cm.assign rfl) rfl ?_
  refine Sl.nil ?_
  refine At.weak [(0, _), (2, _), (3, _), (4, _), (5, _), (6, _), (7, _), (8, _), (9, _)] ⟨rfl, rfl, rfl, rfl, rfl, rfl, rfl, rfl, rfl, trivial⟩ ?_
  refine At.go ?_
  refine Sc.seq ?_
  refine Sc.region ?_
  refine Sl.calm (Cm.move rfl) rfl ?_
  refine Sl.calm (Cm.move rfl) rfl ?_
  refine Sl.want rfl rfl (Cm.move rfl) rfl ?_
  refine Sl.want rfl rfl (Cm.strIn sl22 ty5 ty9 rfl (ho7.grow hf8).vw) rfl ?_
  refine Sl.want rfl rfl (Cm.move rfl) rfl ?_
  refine Sl.want rfl rfl (Cm.strIn sl22 ty5 ty9 rfl ho8.vw) rfl ?_
  refine Sl.want rfl rfl (Cm.yes (Cm.eqlBs rfl rfl) rfl) rfl ?_
  refine Sl.calm (Cm.pick_t rfl rfl) rfl ?_
  refine Sl.calm (Cm.move rfl) rfl ?_
  refine Sl.want rfl rfl (Cm.move rfl) rfl ?_
  refine Sl.want rfl rfl (Cm.move rfl) rfl ?_
  refine Sl.want rfl rfl (Cm.yes (Cm.eql rfl rfl) rfl) rfl ?_
  refine Sl.calm (Cm.pick_t rfl rfl) rfl ?_
  refine Sl.calm (Cm.move rfl) rfl ?_
  refine Sl.want rfl rfl (Cm.move rfl) rfl ?_
  refine Sl.want rfl rfl (Cm.strIn sl22 ty5 ty9 rfl ((ho36.grow hf7).grow hf8).vw) rfl ?_
  refine Sl.want rfl rfl (Cm.move rfl) rfl ?_
  refine Sl.want rfl rfl (Cm.strIn sl22 ty5 ty9 rfl ((((hv.grow hF3).grow hF36).grow hf7).grow hf8)) rfl ?_
  refine Sl.want rfl rfl (Cm.yes (Cm.eqlBs rfl rfl) rfl) rfl ?_
  refine Sl.calm (Cm.pick_t rfl rfl) rfl ?_
  refine Sl.calm (Cm.assign rfl) rfl ?_
  refine Sl.nil ?_
  refine At.weak [(0, _), (2, _), (3, _), (4, _), (5, _), (6, _), (7, _), (8, _), (9, _)] ⟨rfl, rfl, rfl, rfl, rfl, rfl, rfl, rfl, rfl, trivial⟩ ?_
  refine At.go ?_
  refine Sc.ret ?_
  refine At.ret1 rfl rfl ?_
  exact ⟨_, rfl, rfl, ((hf1.trans hF3).trans hF36).trans (hf7.trans hf8)⟩

set_option maxHeartbeats 1000000 in
theorem frameTakes_ok (b0 : List UInt8) (ao : Option Addr) (cap : Nat) (a : Int) (W : World) (hv0 : Vw b8 W.heap ao cap b0) (ha : -9223372036854775808 ≤ a ∧ a ≤ 9223372036854775807) :
    Calls Try.prog 5 [.slice ao b0.length cap, .int .i64 a].toArray W (Ret fun v w' => v = .bool true ∧ Foot nob W w') := by
  refine calls_of_sc 79 [(0, _), (1, _)] Try.func5 rfl rfl rfl (enter_slots ⟨rfl, rfl, trivial⟩) ?_
  refine Sc.seq ?_
  refine Sc.region ?_
  refine Sl.calm (Cm.assign rfl) rfl ?_
  refine Sl.nil ?_
  refine At.go ?_
  refine Sc.seq ?_
  refine Sc.region ?_
  refine Sl.call fn14 rfl (shown04_ok W) rfl ?_
  rintro _ w1 ⟨rfl, hf1⟩
  refine Sl.calm (Cm.assign rfl) rfl ?_
  refine Sl.nil ?_
  refine At.weak [(0, _), (1, _), (4, _), (5, _)] ⟨rfl, rfl, rfl, rfl, trivial⟩ ?_
  refine At.go ?_
  refine Sc.seq ?_
  refine Sc.region ?_
  refine Sl.calm (Cm.move rfl) rfl ?_
  refine Sl.call fn15 rfl (few4_ok ao cap b0 400 w1 (hv0.grow hf1)) rfl ?_
  rintro _ wq ⟨rfl, hwq⟩
  subst wq
  obtain ⟨b, hb⟩ : ∃ b, b = b0.take 400 := ⟨_, rfl⟩
  have hbl : b.length ≤ 400 := by rw [hb, List.length_take]; omega
  have hv : Vw b8 w1.heap ao cap b := by rw [hb]; exact (hv0.grow hf1).take 400
  rw [← hb]
  refine Sl.calm (Cm.assign rfl) rfl ?_
  refine Sl.nil ?_
  refine At.weak [(0, _), (1, _), (4, _), (5, _)] ⟨rfl, rfl, rfl, rfl, trivial⟩ ?_
  refine At.go ?_
  refine Sc.seq ?_
  refine Sc.region ?_
  refine Sl.call fn16 rfl (crcnew_ok w1) rfl ?_
  rintro _ w4 ⟨rfl, hf4⟩
  refine Sl.allocC zc27 rfl ?_
  intro w5 hg5 hs5 hf5
  refine Sl.storeAll (vs := tab) aggTab rfl rfl tab_one hg5 (by rw [tab_len, List.length_replicate]) ?_
  intro w6 hg6 hs6 hf6
  obtain ⟨p, hp⟩ : ∃ p, p = w4.heap.size := ⟨_, rfl⟩
  have hF6 : Foot nob w1 w6 := (hf4.trans hf5).trans_to hf6 (fun k hk => .inr (by have h : k = w4.heap.size := hk; have := hf4.size; omega))
  rw [← hp] at hg6 ⊢
  have ht6 : TbV w6.heap p := hg6
  refine Sl.nil ?_
  refine At.weak [(0, _), (1, _), (4, _), (5, _), (6, _)] ⟨rfl, rfl, rfl, rfl, rfl, trivial⟩ ?_
  refine At.go ?_
  refine Sc.seq ?_
  refine Sc.region ?_
  refine Sl.lit0 b8 sl22 rfl ?_
  intro w7 ho7 hs7 hf7
  refine Sl.calm (Cm.move rfl) rfl ?_
  refine Sl.append b8_one sl22 rfl rfl ho7 ((hv.grow hF6).grow hf7) (by simp; omega) (by simp; unfold maxLen; omega) rfl ?_
  intro o8 c8 w8 ho8 hf8 hr8 hn8
  rw [List.nil_append] at ho8 ⊢
  have hF68 : Foot nob w6 w8 := hf7.trans_to hf8 (fr_at _).step
  have hF8 := hF6.trans hF68
  have ht8 : TbV w8.heap p := hF68.obj ht6 id
  refine Sl.calm (Cm.move rfl) rfl ?_
  refine Sl.call fn19 rfl (ftake_ok p o8 c8 b a w8 ht8 ho8.vw (by omega) ha.2) rfl ?_
  rintro _ w9 ⟨o9, c9, rfl, ho9, hfr9, hf9⟩
  have hF9 := hF8.trans hf9
  refine Sl.calm (Cm.move rfl) rfl ?_
  refine Sl.calm (Cm.extract rfl rfl) rfl ?_
  refine Sl.calm (Cm.extract rfl rfl) rfl ?_
  refine Sl.calm (Cm.extract rfl rfl) rfl ?_
  refine Sl.calm (Cm.assign rfl) rfl ?_
  refine Sl.calm (Cm.assign rfl) rfl ?_
  refine Sl.calm (Cm.assign rfl) rfl ?_
  refine Sl.nil ?_
  refine At.weak [(0, _), (1, _), (4, _), (5, _), (6, _), (7, _), (8, _), (9, _)] ⟨rfl, rfl, rfl, rfl, rfl, rfl, rfl, rfl, trivial⟩ ?_
  refine At.go ?_
  refine Sc.seq ?_
  refine Sc.region ?_
  refine Sl.calm (Cm.move rfl) rfl ?_
  refine Sl.calm (Cm.move rfl) rfl ?_
  refine Sl.call fn20 rfl (rftake_ok ao cap b a w9 (hv.grow hF9) (by omega) ha.2) rfl ?_
  rintro _ w10 ⟨o10, c10, rfl, ho10, hfr10, hf10⟩
  have hF10 := hF9.trans hf10
  refine Sl.calm (Cm.move rfl) rfl ?_
  refine Sl.calm (Cm.extract rfl rfl) rfl ?_
  refine Sl.calm (Cm.extract rfl rfl) rfl ?_
  refine Sl.calm (Cm.extract rfl rfl) rfl ?_
  refine Sl.calm (Cm.assign rfl) rfl ?_
  refine Sl.calm (Cm.assign rfl) rfl ?_
  refine Sl.calm (Cm.assign rfl) rfl ?_
  refine Sl.nil ?_
  refine At.weak [(0, _), (1, _), (4, _), (5, _), (6, _), (7, _), (8, _), (9, _), (10, _), (11, _), (12, _)] ⟨rfl, rfl, rfl, rfl, rfl, rfl, rfl, rfl, rfl, rfl, rfl, trivial⟩ ?_
  refine At.go ?_
  refine Sc.seq ?_
  refine Sc.region ?_
  refine Sl.lit0 b8 sl22 rfl ?_
  intro w11 ho11 hs11 hf11
  refine Sl.calm (Cm.move rfl) rfl ?_
  refine Sl.append b8_one sl22 rfl rfl ho11 ((hv.grow hF10).grow hf11) (by simp; omega) (by simp; unfold maxLen; omega) rfl ?_
  intro o12 c12 w12 ho12 hf12 hr12 hn12
  rw [List.nil_append] at ho12 ⊢
  have hF1012 : Foot nob w10 w12 := hf11.trans_to hf12 (fr_at _).step
  have hF12 := hF10.trans hF1012
  refine Sl.calm (Cm.move rfl) rfl ?_
  refine Sl.call fn21 rfl (fskip_ok o12 c12 b a w12 ho12.vw (by omega) ha.2) rfl ?_
  rintro _ w13 ⟨rfl, hf13⟩
  refine Sl.calm (Cm.move rfl) rfl ?_
  refine Sl.calm (Cm.extract rfl rfl) rfl ?_
  refine Sl.calm (Cm.extract rfl rfl) rfl ?_
  refine Sl.calm (Cm.assign rfl) rfl ?_
  refine Sl.calm (Cm.assign rfl) rfl ?_
  refine Sl.nil ?_
  refine At.weak [(0, _), (1, _), (4, _), (5, _), (6, _), (7, _), (8, _), (9, _), (10, _), (11, _), (12, _), (13, _), (14, _)] ⟨rfl, rfl, rfl, rfl, rfl, rfl, rfl, rfl, rfl, rfl, rfl, rfl, rfl, trivial⟩ ?_
  refine At.go ?_
  refine Sc.seq ?_
  refine Sc.region ?_
  refine Sl.calm (Cm.move rfl) rfl ?_
  refine Sl.calm (Cm.move rfl) rfl ?_
  refine Sl.call fn22 rfl (rfskip_ok ao cap b a w13 (hv.grow (hF12.trans hf13)) (by omega) ha.2) rfl ?_
  rintro _ w14 ⟨rfl, hf14⟩
  have hF914 := ((hf10.trans hF1012).trans hf13).trans hf14
  refine Sl.calm (Cm.move rfl) rfl ?_
  refine Sl.calm (Cm.extract rfl rfl) rfl ?_
  refine Sl.calm (Cm.extract rfl rfl) rfl ?_
  refine Sl.calm (Cm.assign rfl) rfl ?_
  refine Sl.calm (Cm.assign rfl) rfl ?_
  refine Sl.nil ?_
  refine At.weak [(0, _), (1, _), (4, _), (5, _), (6, _), (7, _), (8, _), (9, _), (10, _), (11, _), (12, _), (13, _), (14, _), (15, _), (16, _)] ⟨rfl, rfl, rfl, rfl, rfl, rfl, rfl, rfl, rfl, rfl, rfl, rfl, rfl, rfl, rfl, trivial⟩ ?_
  refine At.go ?_
  refine Sc.seq ?_
  refine Sc.region ?_
  refine Sl.calm (Cm.move rfl) rfl ?_
  refine Sl.calm (Cm.move rfl) rfl ?_
  refine Sl.want rfl rfl (Cm.move rfl) rfl ?_
  refine Sl.want rfl rfl (Cm.strIn sl22 ty5 ty9 rfl (ho9.grow hF914).vw) rfl ?_
  refine Sl.want rfl rfl (Cm.move rfl) rfl ?_
  refine Sl.want rfl rfl (Cm.strIn sl22 ty5 ty9 rfl (ho10.grow ((hF1012.trans hf13).trans hf14)).vw) rfl ?_
  refine Sl.want rfl rfl (Cm.yes (Cm.eqlBs rfl rfl) rfl) rfl ?_
  refine Sl.calm (Cm.pick_t rfl rfl) rfl ?_
  refine Sl.calm (Cm.move rfl) rfl ?_
  refine Sl.want rfl rfl (Cm.move rfl) rfl ?_
  refine Sl.want rfl rfl (Cm.move rfl) rfl ?_
  refine Sl.want rfl rfl (Cm.yes (Cm.eql rfl rfl) rfl) rfl ?_
  refine Sl.calm (Cm.pick_t rfl rfl) rfl ?_
  refine Sl.calm (Cm.move rfl) rfl ?_
  refine Sl.want rfl rfl (Cm.move rfl) rfl ?_
  refine Sl.want rfl rfl (Cm.move rfl) rfl ?_
  refine Sl.want rfl rfl (Cm.yes (Cm.eql rfl rfl) rfl) rfl ?_
  refine Sl.calm (Cm.pick_t rfl rfl) rfl ?_
  refine Sl.calm (Cm.move rfl) rfl ?_
  refine Sl.want rfl rfl (Cm.move rfl) rfl ?_
  refine Sl.want rfl rfl (Cm.move rfl) rfl ?_
  refine Sl.want rfl rfl (Cm.yes (Cm.eql rfl rfl) rfl) rfl ?_
  refine Sl.calm (Cm.pick_t rfl rfl) rfl ?_
  refine Sl.calm (Cm.move rfl) rfl ?_
  refine Sl.want rfl rfl (Cm.move rfl) rfl ?_
  refine Sl.want rfl rfl (Cm.move rfl) rfl ?_
  refine Sl.want rfl rfl (Cm.yes (Cm.eql rfl rfl) rfl) rfl ?_
  refine Sl.calm (Cm.pick_t rfl rfl) rfl ?_
  refine Sl.calm (Cm.assign rfl) rfl ?_
  refine Sl.nil ?_
  refine At.weak [(0, _), (1, _), (4, _), (5, _), (6, _), (7, _), (8, _), (9, _), (10, _), (11, _), (12, _), (13, _), (14, _), (15, _), (16, _)] ⟨rfl, rfl, rfl, rfl, rfl, rfl, rfl, rfl, rfl, rfl, rfl, rfl, rfl, rfl, rfl, trivial⟩ ?_
  refine At.go ?_
  refine Sc.ret ?_
  refine At.ret1 rfl rfl ?_
  exact ⟨_, rfl, rfl, (hf1.trans hF9).trans hF914⟩
end Go.Proofs.Ytlpfahmkjgompaa
