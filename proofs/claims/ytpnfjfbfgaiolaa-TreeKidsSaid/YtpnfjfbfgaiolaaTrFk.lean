/- tree: the reference's Check. No condition beyond the bounds that each states. -/
import Derived.Test.YtpnfjfbfgaiolaaTrEk
namespace Go.Proofs.Ytpnfjfbfgaiolaa
open Go Go.RowKit
set_option linter.unusedVariables false

theorem lnk_at {ps : List (NdH × Nd)} {i k : Nat} {p q : NdH × Nd} (h : (nds ps).Pairwise lnkR) (hk : k < i) (hq : ps[k]? = some q) (hp : ps[i]? = some p) : lnkR q.2 p.2 := by
  have e1 := List.getElem?_eq_some_iff.1 (nds_get hq)
  have e2 := List.getElem?_eq_some_iff.1 (nds_get hp)
  have := List.pairwise_iff_getElem.1 h k i e1.1 e2.1 hk
  rw [e1.2, e2.2] at this; exact this
variable {D : Nat → Prop}
set_option maxHeartbeats 4000000 in
theorem rcheck_ok (lo : Option Addr) (lc : Nat) (ps : List (NdH × Nd)) (W : World) (hv : NodesV D W.heap lo lc ps) (hsm : ∀ p ∈ ps, smN p.2) :
    Calls Try.prog 13 [.slice lo ps.length lc].toArray W (Ret fun v w' => v = .int .i64 (chk (nds ps)) ∧ Foot nob W w') := by
  have h63 := hv.1.len63
  refine calls_of_sc 68 [(0, _)] Try.func13 rfl rfl rfl (enter_slots ⟨rfl, trivial⟩) ?_
  refine Sc.seq ?_
  refine Sc.region ?_
  refine Sl.calm (Cm.assign rfl) rfl ?_
  refine Sl.nil ?_
  refine At.go ?_
  refine Sc.seq ?_
  refine Sc.region ?_
  refine Sl.calm (Cm.move rfl) rfl ?_
  refine Sl.call fn33 rfl (rplaced_ok lo lc ps W hv hsm) rfl ?_
  rintro _ w2 ⟨rfl, hf2⟩
  refine Sl.calm (Cm.assign rfl) rfl ?_
  refine Sl.nil ?_
  refine At.weak [(0, _), (2, _), (3, _)] ⟨rfl, rfl, rfl, trivial⟩ ?_
  refine At.go ?_
  refine Sc.seq ?_
  refine Sc.seq ?_
  refine Sc.region ?_
  refine Sl.calm (Cm.move rfl) rfl ?_
  refine Sl.fork (Cm.neq rfl rfl) rfl (fun h11 => ?_) (fun h11 => ?_)
  ·
    refine Sl.nil ?_
    refine At.weak [(0, _), (2, _), (3, _), (11, _)] ⟨rfl, rfl, rfl, rfl, trivial⟩ ?_
    refine At.go ?_
    refine Sc.cond_t rfl ?_
    refine Sc.seq ?_
    refine Sc.region ?_
    refine Sl.calm (Cm.move rfl) rfl ?_
    refine Sl.calm (Cm.assign rfl) rfl ?_
    refine Sl.nil ?_
    refine At.weak [(0, _), (2, _), (3, _), (11, _)] ⟨rfl, rfl, rfl, rfl, trivial⟩ ?_
    refine At.go ?_
    refine Sc.ret ?_
    refine At.then_ret ?_
    refine At.ret1 rfl rfl ?_
    exact ⟨_, rfl, by rw [chk_plc, if_pos h11], hf2⟩
  ·
    have hz : plc (nds ps) = 0 := Classical.not_not.1 h11
    refine Sl.nil ?_
    refine At.weak [(0, _), (2, _), (3, _), (11, _)] ⟨rfl, rfl, rfl, rfl, trivial⟩ ?_
    refine At.go ?_
    refine Sc.cond_f rfl ?_
    refine Sc.skip ?_
    refine At.go ?_
    refine Sc.seq ?_
    refine Sc.seq ?_
    refine Sc.region ?_
    refine Sl.calm (Cm.assign rfl) rfl ?_
    refine Sl.nil ?_
    refine At.go ?_
    refine Sc.block ?_
    refine Sc.loop (β := Nat) (fun i => [(0, .slice lo ps.length lc), (4, .int .i64 i)]) (fun i w => i ≤ ps.length ∧ (∀ n ∈ (nds ps).take i, mayN n) ∧ Foot nob W w) (fun i => ps.length - i) 0 ⟨rfl, rfl, trivial⟩ ⟨Nat.zero_le _, by simp, hf2⟩ ?_
    rintro i w3 ⟨hi, hmy, hF3⟩
    refine Sc.seq ?_
    refine Sc.seq ?_
    refine Sc.region ?_
    refine Sl.calm (Cm.move rfl) rfl ?_
    refine Sl.calm (Cm.move rfl) rfl ?_
    refine Sl.calm (Cm.len sl22 rfl) rfl ?_
    refine Sl.fork (Cm.lss rfl rfl) rfl (fun h16 => ?_) (fun h16 => ?_)
    ·
      have hil : i < ps.length := by omega
      obtain ⟨p, hp⟩ : ∃ p, ps[i]? = some p := ⟨_, List.getElem?_eq_getElem hil⟩
      have hpm := List.mem_of_getElem? hp
      have hv3 := hv.grow hF3
      refine Sl.nil ?_
      refine At.weak [(0, _), (4, _), (16, _)] ⟨rfl, rfl, rfl, trivial⟩ ?_
      refine At.go ?_
      refine Sc.cond_t rfl ?_
      refine Sc.skip ?_
      refine At.go ?_
      refine Sc.seq ?_
      refine Sc.block ?_
      refine Sc.seq ?_
      refine Sc.region ?_
      refine Sl.calm (Cm.move rfl) rfl ?_
      refine Sl.calm (Cm.move rfl) rfl ?_
      refine Sl.calm (Cm.indexAddr sl22 rfl rfl hv3.1.non (by omega)) rfl ?_
      refine Sl.calm (Cm.ldM (cs := encN p) agg34 rfl (fun j v hj => hv3.1.rowZ i rfl hp j v hj)) rfl ?_
      refine Sl.call fn34 rfl (rmay_ok p w3 (hv3.2 p hpm) (hsm p hpm)) rfl ?_
      rintro _ w4 ⟨rfl, hf4⟩
      by_cases h23 : mayN p.2
      ·
        rw [decide_eq_true h23]
        refine Sl.calm (Cm.assign rfl) rfl ?_
        refine Sl.nil ?_
        refine At.weak [(0, _), (4, _), (5, _), (16, _)] ⟨rfl, rfl, rfl, rfl, trivial⟩ ?_
        refine At.go ?_
        refine Sc.seq ?_
        refine Sc.region ?_
        refine Sl.calm (Cm.move rfl) rfl ?_
        refine Sl.calm (Cm.not rfl) rfl ?_
        refine Sl.nil ?_
        refine At.weak [(0, _), (4, _), (5, _), (16, _), (25, _)] ⟨rfl, rfl, rfl, rfl, rfl, trivial⟩ ?_
        refine At.go ?_
        refine Sc.cond_f rfl ?_
        refine Sc.skip ?_
        refine At.block_normal ?_
        refine At.go ?_
        refine Sc.region ?_
        refine Sl.calm (Cm.move rfl) rfl ?_
        refine Sl.calm (Cm.add64 rfl rfl (by omega)) rfl ?_
        refine Sl.calm (Cm.assign rfl) rfl ?_
        refine Sl.nil ?_
        exact At.again (i + 1) ⟨rfl, rfl, trivial⟩ ⟨by omega, allT hp hmy h23, hF3.trans hf4⟩ (by show ps.length - (i + 1) < ps.length - i; omega)
      ·
        rw [decide_eq_false h23]
        refine Sl.calm (Cm.assign rfl) rfl ?_
        refine Sl.nil ?_
        refine At.weak [(0, _), (4, _), (5, _), (16, _)] ⟨rfl, rfl, rfl, rfl, trivial⟩ ?_
        refine At.go ?_
        refine Sc.seq ?_
        refine Sc.region ?_
        refine Sl.calm (Cm.move rfl) rfl ?_
        refine Sl.calm (Cm.not rfl) rfl ?_
        refine Sl.nil ?_
        refine At.weak [(0, _), (4, _), (5, _), (16, _), (25, _)] ⟨rfl, rfl, rfl, rfl, rfl, trivial⟩ ?_
        refine At.go ?_
        refine Sc.cond_t rfl ?_
        refine Sc.seq ?_
        refine Sc.region ?_
        refine Sl.calm (Cm.assign rfl) rfl ?_
        refine Sl.nil ?_
        refine At.go ?_
        refine Sc.ret ?_
        refine At.block_ret ?_
        refine At.then_ret ?_
        refine At.then_ret ?_
        refine At.block_ret ?_
        refine At.then_ret ?_
        refine At.ret1 rfl rfl ?_
        exact ⟨_, rfl, by rw [chk_plc, if_neg (fun h => h hz), if_pos ⟨p.2, List.mem_of_getElem? (nds_get hp), h23⟩], hF3.trans hf4⟩
    ·
      have hie : i = ps.length := by omega
      subst hie
      rw [List.take_of_length_le (by simp)] at hmy
      have hmy2 : ¬ ∃ n ∈ nds ps, ¬ mayN n := fun ⟨n, hn, h⟩ => h (hmy n hn)
      refine Sl.nil ?_
      refine At.weak [(0, _), (4, _), (16, _)] ⟨rfl, rfl, rfl, trivial⟩ ?_
      refine At.go ?_
      refine Sc.cond_f rfl ?_
      refine Sc.exit ?_
      refine At.then_exit ?_
      refine At.then_exit ?_
      refine At.block_hit ?_
      refine At.go ?_
      refine Sc.seq ?_
      refine Sc.seq ?_
      refine Sc.region ?_
      refine Sl.calm (Cm.assign rfl) rfl ?_
      refine Sl.nil ?_
      refine At.go ?_
      refine Sc.block ?_
      refine Sc.loop (β := Nat) (fun i => [(0, .slice lo ps.length lc), (6, .int .i64 i)]) (fun i w => i ≤ ps.length ∧ ((nds ps).take i).Pairwise lnkR ∧ Foot nob W w) (fun i => ps.length - i) 0 ⟨rfl, rfl, trivial⟩ ⟨Nat.zero_le _, by simp, hF3⟩ ?_
      rintro i w3 ⟨hi, hlk, hF3⟩
      refine Sc.seq ?_
      refine Sc.seq ?_
      refine Sc.region ?_
      refine Sl.calm (Cm.move rfl) rfl ?_
      refine Sl.calm (Cm.move rfl) rfl ?_
      refine Sl.calm (Cm.len sl22 rfl) rfl ?_
      refine Sl.fork (Cm.lss rfl rfl) rfl (fun h29 => ?_) (fun h29 => ?_)
      ·
        have hil : i < ps.length := by omega
        obtain ⟨p, hp⟩ : ∃ p, ps[i]? = some p := ⟨_, List.getElem?_eq_getElem hil⟩
        have hpm := List.mem_of_getElem? hp
        refine Sl.nil ?_
        refine At.weak [(0, _), (6, _), (29, _)] ⟨rfl, rfl, rfl, trivial⟩ ?_
        refine At.go ?_
        refine Sc.cond_t rfl ?_
        refine Sc.skip ?_
        refine At.go ?_
        refine Sc.seq ?_
        refine Sc.block ?_
        refine Sc.seq ?_
        refine Sc.region ?_
        refine Sl.calm (Cm.assign rfl) rfl ?_
        refine Sl.nil ?_
        refine At.go ?_
        refine Sc.block ?_
        refine Sc.loop (β := Nat) (fun k => [(0, .slice lo ps.length lc), (6, .int .i64 i), (7, .int .i64 k)]) (fun k w => k ≤ i ∧ (∀ n ∈ (nds ps).take k, lnkR n p.2) ∧ Foot nob W w) (fun k => i - k) 0 ⟨rfl, rfl, rfl, trivial⟩ ⟨Nat.zero_le _, by simp, hF3⟩ ?_
        rintro k w4 ⟨hk, hbl, hF4⟩
        refine Sc.seq ?_
        refine Sc.seq ?_
        refine Sc.region ?_
        refine Sl.calm (Cm.move rfl) rfl ?_
        refine Sl.calm (Cm.move rfl) rfl ?_
        refine Sl.fork (Cm.lss rfl rfl) rfl (fun h34 => ?_) (fun h34 => ?_)
        ·
          have hkl : k < i := by omega
          obtain ⟨q, hq⟩ : ∃ q, ps[k]? = some q := ⟨_, List.getElem?_eq_getElem (by omega)⟩
          have hqm := List.mem_of_getElem? hq
          have hv4 := hv.grow hF4
          refine Sl.nil ?_
          refine At.weak [(0, _), (6, _), (7, _), (34, _)] ⟨rfl, rfl, rfl, rfl, trivial⟩ ?_
          refine At.go ?_
          refine Sc.cond_t rfl ?_
          refine Sc.skip ?_
          refine At.go ?_
          refine Sc.seq ?_
          refine Sc.block ?_
          refine Sc.seq ?_
          refine Sc.draw 31 (fun H => VwM 10 encN H lo lc ps) [27] [0, 1, 2, 3, 4, 5, 6, 7, 8, 9, 10, 11, 12, 13, 14, 15, 16, 17, 18, 19, 20, 21, 22, 23, 24, 25, 26, 27, 28, 29, 30] mixed (by kernel_rfl) (hv4.1) ?_
          refine Sx.calm rfl rfl (Cm.move rfl) rfl ?_
          refine Sx.calm rfl rfl (Cm.move rfl) rfl ?_
          refine Sx.calm rfl rfl (Cm.indexAddr sl22 rfl rfl hv4.1.non (by omega)) rfl ?_
          refine Sx.calm rfl rfl (Cm.field fld34_1 rfl) rfl ?_
          refine Sx.calm rfl rfl (Cm.load sca3 rfl (fun H hH => hH.rowZ i rfl hp 1 _ rfl)) rfl ?_
          refine Sx.calm rfl rfl (Cm.move rfl) rfl ?_
          refine Sx.calm rfl rfl (Cm.move rfl) rfl ?_
          refine Sx.calm rfl rfl (Cm.indexAddr sl22 rfl rfl hv4.1.non (by omega)) rfl ?_
          refine Sx.calm rfl rfl (Cm.field fld34_1 rfl) rfl ?_
          refine Sx.calm rfl rfl (Cm.load sca3 rfl (fun H hH => hH.rowZ k rfl hq 1 _ rfl)) rfl ?_
          refine Sx.fork rfl rfl (Cm.eql rfl rfl) rfl (fun h47 => ?_) (fun h47 => ?_)
          ·
            refine Sx.calm rfl rfl (Cm.move rfl) rfl ?_
            refine Sx.want rfl rfl rfl rfl (Cm.move rfl) rfl ?_
            refine Sx.want rfl rfl rfl rfl (Cm.move rfl) rfl ?_
            refine Sx.want rfl rfl rfl rfl (Cm.indexAddr sl22 rfl rfl hv4.1.non (by omega)) rfl ?_
            refine Sx.want rfl rfl rfl rfl (Cm.field fld34_2 rfl) rfl ?_
            refine Sx.want rfl rfl rfl rfl (Cm.load sca3 rfl (fun H hH => hH.rowZ i rfl hp 2 _ rfl)) rfl ?_
            refine Sx.forkWant rfl rfl rfl rfl (Cm.eql rfl rfl) rfl (fun h54 => ?_) (fun h54 => ?_)
            ·
              refine Sx.want rfl rfl rfl rfl (Cm.move rfl) rfl ?_
              refine Sx.skip rfl rfl rfl rfl rfl rfl ?_
              refine Sx.skip rfl rfl rfl rfl rfl rfl ?_
              refine Sx.skip rfl rfl rfl rfl rfl rfl ?_
              refine Sx.skip rfl rfl rfl rfl rfl rfl ?_
              refine Sx.skip rfl rfl rfl rfl rfl rfl ?_
              refine Sx.skip rfl rfl rfl rfl rfl rfl ?_
              refine Sx.skip rfl rfl rfl rfl rfl rfl ?_
              refine Sx.skip rfl rfl rfl rfl rfl rfl ?_
              refine Sx.eff rfl rfl (Sl.skip rfl rfl rfl rfl ?_)
              refine Sx.on (by exact hv4.1) ?_
              refine Sx.skip rfl rfl rfl rfl rfl rfl ?_
              refine Sx.want rfl rfl rfl rfl (Cm.pick_t rfl rfl) rfl ?_
              refine Sx.calm rfl rfl (Cm.pick_t rfl rfl) rfl ?_
              refine Sx.nil ?_
              refine At.weak [(0, _), (6, _), (7, _), (34, _), (67, _)] ⟨rfl, rfl, rfl, rfl, rfl, trivial⟩ ?_
              refine At.go ?_
              refine Sc.cond_t rfl ?_
              refine Sc.seq ?_
              refine Sc.region ?_
              refine Sl.calm (Cm.assign rfl) rfl ?_
              refine Sl.nil ?_
              refine At.go ?_
              refine Sc.ret ?_
              refine At.block_ret ?_
              refine At.then_ret ?_
              refine At.then_ret ?_
              refine At.block_ret ?_
              refine At.block_ret ?_
              refine At.then_ret ?_
              refine At.then_ret ?_
              refine At.block_ret ?_
              refine At.then_ret ?_
              refine At.ret1 rfl rfl ?_
              exact ⟨_, rfl, by rw [chk_plc, if_neg (fun h => h hz), if_neg hmy2, if_neg (fun h => (lnk_at h hkl hq hp h47).1 h54)], hF4.draws _⟩
            ·
              refine Sx.want rfl rfl rfl rfl (Cm.move rfl) rfl ?_
              refine Sx.want rfl rfl rfl rfl (Cm.move rfl) rfl ?_
              refine Sx.want rfl rfl rfl rfl (Cm.move rfl) rfl ?_
              refine Sx.want rfl rfl rfl rfl (Cm.indexAddr sl22 rfl rfl hv4.1.non (by omega)) rfl ?_
              refine Sx.want rfl rfl rfl rfl (Cm.loadM (cs := encN p) agg34 rfl (fun H hH j v hj => hH.rowZ i rfl hp j v hj)) rfl ?_
              refine Sx.want rfl rfl rfl rfl (Cm.move rfl) rfl ?_
              refine Sx.want rfl rfl rfl rfl (Cm.move rfl) rfl ?_
              refine Sx.want rfl rfl rfl rfl (Cm.indexAddr sl22 rfl rfl hv4.1.non (by omega)) rfl ?_
              refine Sx.want rfl rfl rfl rfl (Cm.loadM (cs := encN q) agg34 rfl (fun H hH j v hj => hH.rowZ k rfl hq j v hj)) rfl ?_
              refine Sx.eff rfl rfl (Sl.callWant rfl rfl fn15 rfl (ralike_ok p q _ (hv4.2 p hpm) (hv4.2 q hqm)) rfl ?_)
              rintro _ w5 ⟨rfl, hf5⟩
              have hF5 := (hF4.draws 1).trans hf5
              refine Sx.on (by exact (hv.grow hF5).1) ?_
              by_cases h64 : Alk p.2 q.2
              ·
                rw [decide_eq_true h64]
                refine Sx.want rfl rfl rfl rfl (Cm.not rfl) rfl ?_
                refine Sx.want rfl rfl rfl rfl (Cm.pick_f rfl rfl) rfl ?_
                refine Sx.calm rfl rfl (Cm.pick_t rfl rfl) rfl ?_
                refine Sx.nil ?_
                refine At.weak [(0, _), (6, _), (7, _), (34, _), (67, _)] ⟨rfl, rfl, rfl, rfl, rfl, trivial⟩ ?_
                refine At.go ?_
                refine Sc.cond_f rfl ?_
                refine Sc.skip ?_
                refine At.block_normal ?_
                refine At.go ?_
                refine Sc.region ?_
                refine Sl.calm (Cm.move rfl) rfl ?_
                refine Sl.calm (Cm.add64 rfl rfl (by omega)) rfl ?_
                refine Sl.calm (Cm.assign rfl) rfl ?_
                refine Sl.nil ?_
                first
                  | exact At.again (k + 1) ⟨rfl, rfl, rfl, trivial⟩ ⟨by omega, allT (R := fun n => lnkR n p.2) hq hbl (fun e => absurd e h47), hF4.draws _⟩ (by show i - (k + 1) < i - k; omega)
                  | exact At.again (k + 1) ⟨rfl, rfl, rfl, trivial⟩ ⟨by omega, allT (R := fun n => lnkR n p.2) hq hbl (fun _ => ⟨h54, h64⟩), hF5⟩ (by show i - (k + 1) < i - k; omega)
              ·
                rw [decide_eq_false h64]
                refine Sx.want rfl rfl rfl rfl (Cm.not rfl) rfl ?_
                refine Sx.want rfl rfl rfl rfl (Cm.pick_f rfl rfl) rfl ?_
                refine Sx.calm rfl rfl (Cm.pick_t rfl rfl) rfl ?_
                refine Sx.nil ?_
                refine At.weak [(0, _), (6, _), (7, _), (34, _), (67, _)] ⟨rfl, rfl, rfl, rfl, rfl, trivial⟩ ?_
                refine At.go ?_
                refine Sc.cond_t rfl ?_
                refine Sc.seq ?_
                refine Sc.region ?_
                refine Sl.calm (Cm.assign rfl) rfl ?_
                refine Sl.nil ?_
                refine At.go ?_
                refine Sc.ret ?_
                refine At.block_ret ?_
                refine At.then_ret ?_
                refine At.then_ret ?_
                refine At.block_ret ?_
                refine At.block_ret ?_
                refine At.then_ret ?_
                refine At.then_ret ?_
                refine At.block_ret ?_
                refine At.then_ret ?_
                refine At.ret1 rfl rfl ?_
                exact ⟨_, rfl, by rw [chk_plc, if_neg (fun h => h hz), if_neg hmy2, if_neg (fun h => h64 (lnk_at h hkl hq hp h47).2)], hF5⟩
          ·
            refine Sx.calm rfl rfl (Cm.move rfl) rfl ?_
            refine Sx.skip rfl rfl rfl rfl rfl rfl ?_
            refine Sx.skip rfl rfl rfl rfl rfl rfl ?_
            refine Sx.skip rfl rfl rfl rfl rfl rfl ?_
            refine Sx.skip rfl rfl rfl rfl rfl rfl ?_
            refine Sx.skip rfl rfl rfl rfl rfl rfl ?_
            refine Sx.skip rfl rfl rfl rfl rfl rfl ?_
            refine Sx.skip rfl rfl rfl rfl rfl rfl ?_
            refine Sx.skip rfl rfl rfl rfl rfl rfl ?_
            refine Sx.skip rfl rfl rfl rfl rfl rfl ?_
            refine Sx.skip rfl rfl rfl rfl rfl rfl ?_
            refine Sx.skip rfl rfl rfl rfl rfl rfl ?_
            refine Sx.skip rfl rfl rfl rfl rfl rfl ?_
            refine Sx.skip rfl rfl rfl rfl rfl rfl ?_
            refine Sx.skip rfl rfl rfl rfl rfl rfl ?_
            refine Sx.skip rfl rfl rfl rfl rfl rfl ?_
            refine Sx.eff rfl rfl (Sl.skip rfl rfl rfl rfl ?_)
            refine Sx.on (by exact hv4.1) ?_
            refine Sx.skip rfl rfl rfl rfl rfl rfl ?_
            refine Sx.skip rfl rfl rfl rfl rfl rfl ?_
            refine Sx.calm rfl rfl (Cm.pick_f rfl rfl) rfl ?_
            refine Sx.nil ?_
            refine At.weak [(0, _), (6, _), (7, _), (34, _), (67, _)] ⟨rfl, rfl, rfl, rfl, rfl, trivial⟩ ?_
            refine At.go ?_
            refine Sc.cond_f rfl ?_
            refine Sc.skip ?_
            refine At.block_normal ?_
            refine At.go ?_
            refine Sc.region ?_
            refine Sl.calm (Cm.move rfl) rfl ?_
            refine Sl.calm (Cm.add64 rfl rfl (by omega)) rfl ?_
            refine Sl.calm (Cm.assign rfl) rfl ?_
            refine Sl.nil ?_
            first
              | exact At.again (k + 1) ⟨rfl, rfl, rfl, trivial⟩ ⟨by omega, allT (R := fun n => lnkR n p.2) hq hbl (fun e => absurd e h47), hF4.draws _⟩ (by show i - (k + 1) < i - k; omega)
              | exact At.again (k + 1) ⟨rfl, rfl, rfl, trivial⟩ ⟨by omega, allT (R := fun n => lnkR n p.2) hq hbl (fun _ => ⟨h54, h64⟩), hF5⟩ (by show i - (k + 1) < i - k; omega)
        ·
          rw [show k = i by omega] at hbl
          refine Sl.nil ?_
          refine At.weak [(0, _), (6, _), (7, _), (34, _)] ⟨rfl, rfl, rfl, rfl, trivial⟩ ?_
          refine At.go ?_
          refine Sc.cond_f rfl ?_
          refine Sc.exit ?_
          refine At.then_exit ?_
          refine At.then_exit ?_
          refine At.block_hit ?_
          refine At.block_normal ?_
          refine At.go ?_
          refine Sc.region ?_
          refine Sl.calm (Cm.move rfl) rfl ?_
          refine Sl.calm (Cm.add64 rfl rfl (by omega)) rfl ?_
          refine Sl.calm (Cm.assign rfl) rfl ?_
          refine Sl.nil ?_
          refine At.again (i + 1) ⟨rfl, rfl, trivial⟩ ⟨by omega, ?_, hF4⟩ (by show ps.length - (i + 1) < ps.length - i; omega)
          rw [tkN hp]
          exact List.pairwise_append.2 ⟨hlk, by simp, fun b hb a ha => by rw [List.mem_singleton] at ha; subst ha; exact hbl b hb⟩
      ·
        have hie : i = ps.length := by omega
        subst hie
        rw [List.take_of_length_le (by simp)] at hlk
        refine Sl.nil ?_
        refine At.weak [(0, _), (6, _), (29, _)] ⟨rfl, rfl, rfl, trivial⟩ ?_
        refine At.go ?_
        refine Sc.cond_f rfl ?_
        refine Sc.exit ?_
        refine At.then_exit ?_
        refine At.then_exit ?_
        refine At.block_hit ?_
        refine At.go ?_
        refine Sc.seq ?_
        refine Sc.region ?_
        refine Sl.calm (Cm.assign rfl) rfl ?_
        refine Sl.nil ?_
        refine At.go ?_
        refine Sc.ret ?_
        refine At.ret1 rfl rfl ?_
        exact ⟨_, rfl, by rw [chk_plc, if_neg (fun h => h hz), if_neg hmy2, if_pos hlk], hF3⟩
end Go.Proofs.Ytpnfjfbfgaiolaa
