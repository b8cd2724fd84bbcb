/- tree: the reference's Same, Sorted, Numbered, Canon. No condition beyond the bounds that each states. -/
import Derived.Test.YtpnfjfbfgaiolaaTrO
import Derived.Test.YtpnfjfbfgaiolaaMt
namespace Go.Proofs.Ytpnfjfbfgaiolaa
open Go Go.RowKit Go.Maps
set_option linter.unusedVariables false

theorem nd_ext {a b : Nd} : a = b ↔ a.names = b.names ∧ Alk a b ∧ a.ino = b.ino := by
  constructor
  · rintro rfl; exact ⟨rfl, Alk.refl _, rfl⟩
  · rintro ⟨h1, ⟨h2, ⟨h3, h4, h5⟩, h6, h7, h8, h9⟩, h10⟩
    cases a; cases b; simp_all
variable {D D' : Nat → Prop}
set_option maxHeartbeats 2000000 in
theorem rsameN_ok (lo mo : Option Addr) (lc mc : Nat) (ps qs : List (NdH × Nd)) (W : World) (hp : NodesV D W.heap lo lc ps) (hq : NodesV D' W.heap mo mc qs) :
    Calls Try.prog 24 [.slice lo ps.length lc, .slice mo qs.length mc].toArray W (Ret fun v w' => (v = .bool true ↔ nds ps = nds qs) ∧ (∃ b, v = .bool b) ∧ Foot nob W w') := by
  have h63 := hp.1.len63
  have hll : (nds ps).length = ps.length := by simp
  have hlq : (nds qs).length = qs.length := by simp
  have no : ∀ w', ¬ nds ps = nds qs → Foot nob W w' → Ret (fun v w' => (v = .bool true ↔ nds ps = nds qs) ∧ (∃ b, v = .bool b) ∧ Foot nob W w') (.returned (.bool false)) w' := fun w' h f => ⟨_, rfl, ⟨fun e => by simp at e, fun e => absurd e h⟩, ⟨_, rfl⟩, f⟩
  refine calls_of_sc 58 [(0, _), (1, _)] Try.func24 rfl rfl rfl (enter_slots ⟨rfl, rfl, trivial⟩) ?_
  refine Sc.seq ?_
  refine Sc.region ?_
  refine Sl.calm (Cm.assign rfl) rfl ?_
  refine Sl.nil ?_
  refine At.go ?_
  refine Sc.seq ?_
  refine Sc.seq ?_
  refine Sc.region ?_
  refine Sl.calm (Cm.move rfl) rfl ?_
  refine Sl.calm (Cm.len sl22 rfl) rfl ?_
  refine Sl.calm (Cm.move rfl) rfl ?_
  refine Sl.calm (Cm.len sl22 rfl) rfl ?_
  refine Sl.fork (Cm.neq rfl rfl) rfl (fun h12 => ?_) (fun h12 => ?_)
  ·
    refine Sl.nil ?_
    refine At.weak [(0, _), (1, _), (4, _), (12, _)] ⟨rfl, rfl, rfl, rfl, trivial⟩ ?_
    refine At.go ?_
    refine Sc.cond_t rfl ?_
    refine Sc.seq ?_
    refine Sc.region ?_
    refine Sl.calm (Cm.assign rfl) rfl ?_
    refine Sl.nil ?_
    refine At.go ?_
    refine Sc.ret ?_
    refine At.then_ret ?_
    refine At.ret1 rfl rfl ?_
    first
      | exact no _ (fun e => by have := congrArg List.length e; omega) (Foot.refl _ _)
      | (refine no _ (fun e => ?_) (hF4.draws 1)
         have e2 := nds_get hpi
         rw [e, nds_get hqi] at e2
         have e3 := nd_ext.1 (Option.some.inj e2)
         first
           | exact h39 e3.1.symm
           | exact h42 e3.2.1.symm
           | exact h56 e3.2.2.symm)
      | exact ⟨_, rfl, ⟨fun _ => opt_all (by omega) (by omega) hsm, fun _ => rfl⟩, ⟨_, rfl⟩, hF2⟩
  ·
    refine Sl.nil ?_
    refine At.weak [(0, _), (1, _), (4, _), (12, _)] ⟨rfl, rfl, rfl, rfl, trivial⟩ ?_
    refine At.go ?_
    refine Sc.cond_f rfl ?_
    refine Sc.skip ?_
    refine At.go ?_
    refine Sc.seq ?_
    refine Sc.seq ?_
    refine Sc.region ?_
    refine Sl.calm (Cm.assign rfl) rfl ?_
    refine Sl.nil ?_
    refine At.go ?_
    refine Sc.block ?_
    have hle : ps.length = qs.length := by omega
    refine Sc.loop (β := Nat) (fun i => [(0, .slice lo ps.length lc), (1, .slice mo qs.length mc), (5, .int .i64 i)]) (fun i w => i ≤ ps.length ∧ (∀ j : Nat, j < i → (nds ps)[j]? = (nds qs)[j]?) ∧ Foot nob W w) (fun i => ps.length - i) 0 ⟨rfl, rfl, rfl, trivial⟩ ⟨Nat.zero_le _, fun j hj => by omega, Foot.refl _ _⟩ ?_
    rintro i w2 ⟨hi, hsm, hF2⟩
    refine Sc.seq ?_
    refine Sc.seq ?_
    refine Sc.region ?_
    refine Sl.calm (Cm.move rfl) rfl ?_
    refine Sl.calm (Cm.move rfl) rfl ?_
    refine Sl.calm (Cm.len sl22 rfl) rfl ?_
    refine Sl.fork (Cm.lss rfl rfl) rfl (fun h16 => ?_) (fun h16 => ?_)
    ·
      have hil : i < ps.length := by omega
      obtain ⟨p, hpi⟩ : ∃ p, ps[i]? = some p := ⟨_, List.getElem?_eq_getElem hil⟩
      obtain ⟨q, hqi⟩ : ∃ q, qs[i]? = some q := ⟨_, List.getElem?_eq_getElem (by omega)⟩
      have hpm := List.mem_of_getElem? hpi
      have hqm := List.mem_of_getElem? hqi
      have hp2 := hp.grow hF2
      have hq2 := hq.grow hF2
      have hpn := (hp2.2 p hpm).1
      have hqn := (hq2.2 q hqm).1
      refine Sl.nil ?_
      refine At.weak [(0, _), (1, _), (5, _), (16, _)] ⟨rfl, rfl, rfl, rfl, trivial⟩ ?_
      refine At.go ?_
      refine Sc.cond_t rfl ?_
      refine Sc.skip ?_
      refine At.go ?_
      refine Sc.seq ?_
      refine Sc.block ?_
      refine Sc.seq ?_
      refine Sc.draw 12 (fun H => VwM 10 encN H lo lc ps ∧ VwM 10 encN H mo mc qs) [10] [0, 1, 2, 3, 4, 5, 6, 7, 8, 9, 10, 11] mixed (by kernel_rfl) (⟨hp2.1, hq2.1⟩) ?_
      refine Sx.calm rfl rfl (Cm.move rfl) rfl ?_
      refine Sx.calm rfl rfl (Cm.move rfl) rfl ?_
      refine Sx.calm rfl rfl (Cm.indexAddr sl22 rfl rfl hp2.1.non (by omega)) rfl ?_
      refine Sx.calm rfl rfl (Cm.field fld34_0 rfl) rfl ?_
      refine Sx.calm rfl rfl (Cm.load sca28 rfl (fun H hH => hH.1.rowZ i rfl hpi 0 _ rfl)) rfl ?_
      refine Sx.calm rfl rfl (Cm.move rfl) rfl ?_
      refine Sx.calm rfl rfl (Cm.move rfl) rfl ?_
      refine Sx.calm rfl rfl (Cm.indexAddr sl22 rfl rfl hq2.1.non (by omega)) rfl ?_
      refine Sx.calm rfl rfl (Cm.field fld34_0 rfl) rfl ?_
      refine Sx.calm rfl rfl (Cm.load sca28 rfl (fun H hH => hH.2.rowZ i rfl hqi 0 _ rfl)) rfl ?_
      refine Sx.eff rfl rfl (Sl.call fn26 rfl ((by show Calls _ _ [Value.slice p.1.names.a p.1.names.n p.1.names.c, Value.slice q.1.names.a q.1.names.n q.1.names.c].toArray _ _; rw [hpn.1, hqn.1]; exact rsame_ok _ _ _ _ p.2.names q.2.names _ hpn.2.1 hqn.2.1)) rfl ?_)
      rintro _ w3 ⟨rfl, hf3⟩
      have hF3 := (hF2.draws 1).trans hf3
      have hp3 := hp.grow hF3
      have hq3 := hq.grow hF3
      refine Sx.on (by exact ⟨hp3.1, hq3.1⟩) ?_
      refine Sx.calm rfl rfl (Cm.assign rfl) rfl ?_
      refine Sx.nil ?_
      refine At.weak [(0, _), (1, _), (5, _), (6, _), (16, _)] ⟨rfl, rfl, rfl, rfl, rfl, trivial⟩ ?_
      refine At.go ?_
      refine Sc.seq ?_
      refine Sc.draw 10 (fun H => VwM 10 encN H lo lc ps ∧ VwM 10 encN H mo mc qs) [8] [0, 1, 2, 3, 4, 5, 6, 7, 8, 9] mixed (by kernel_rfl) (⟨hp3.1, hq3.1⟩) ?_
      refine Sx.calm rfl rfl (Cm.move rfl) rfl ?_
      refine Sx.calm rfl rfl (Cm.move rfl) rfl ?_
      refine Sx.calm rfl rfl (Cm.indexAddr sl22 rfl rfl hp3.1.non (by omega)) rfl ?_
      refine Sx.calm rfl rfl (Cm.loadM (cs := encN p) agg34 rfl (fun H hH j v hj => hH.1.rowZ i rfl hpi j v hj)) rfl ?_
      refine Sx.calm rfl rfl (Cm.move rfl) rfl ?_
      refine Sx.calm rfl rfl (Cm.move rfl) rfl ?_
      refine Sx.calm rfl rfl (Cm.indexAddr sl22 rfl rfl hq3.1.non (by omega)) rfl ?_
      refine Sx.calm rfl rfl (Cm.loadM (cs := encN q) agg34 rfl (fun H hH j v hj => hH.2.rowZ i rfl hqi j v hj)) rfl ?_
      refine Sx.eff rfl rfl (Sl.call fn15 rfl (ralike_ok (D := fun k => D k ∨ D' k) p q _ (NdV.mono (hp3.2 p hpm) (fun k h => .inl h)) (NdV.mono (hq3.2 q hqm) (fun k h => .inr h))) rfl ?_)
      rintro _ w4 ⟨rfl, hf4⟩
      have hF4 := (hF3.draws 1).trans hf4
      have hp4 := hp.grow hF4
      have hq4 := hq.grow hF4
      refine Sx.on (by exact ⟨hp4.1, hq4.1⟩) ?_
      refine Sx.calm rfl rfl (Cm.assign rfl) rfl ?_
      refine Sx.nil ?_
      refine At.weak [(0, _), (1, _), (5, _), (6, _), (7, _), (16, _)] ⟨rfl, rfl, rfl, rfl, rfl, rfl, trivial⟩ ?_
      refine At.go ?_
      refine Sc.seq ?_
      refine Sc.quiet 19 [0, 1, 2, 3, 4, 5, 6, 7, 8, 9, 10, 11, 12, 13, 14, 15, 16, 17, 18] mixed (by kernel_rfl) ?_
      refine Sx.calm rfl rfl (Cm.move rfl) rfl ?_
      by_cases h39 : p.2.names = q.2.names
      ·
        rw [decide_eq_true h39]
        refine Sx.calm rfl rfl (Cm.not rfl) rfl ?_
        refine Sx.calm rfl rfl (Cm.move rfl) rfl ?_
        refine Sx.want rfl rfl rfl rfl (Cm.move rfl) rfl ?_
        by_cases h42 : Alk p.2 q.2
        ·
          rw [decide_eq_true h42]
          refine Sx.want rfl rfl rfl rfl (Cm.not rfl) rfl ?_
          refine Sx.calm rfl rfl (Cm.pick_f rfl rfl) rfl ?_
          refine Sx.calm rfl rfl (Cm.move rfl) rfl ?_
          refine Sx.want rfl rfl rfl rfl (Cm.move rfl) rfl ?_
          refine Sx.want rfl rfl rfl rfl (Cm.move rfl) rfl ?_
          refine Sx.want rfl rfl rfl rfl (Cm.indexAddr sl22 rfl rfl hp4.1.non (by omega)) rfl ?_
          refine Sx.want rfl rfl rfl rfl (Cm.field fld34_1 rfl) rfl ?_
          refine Sx.want rfl rfl rfl rfl (Cm.ld sca3 rfl (hp4.1.rowZ i rfl hpi 1 _ rfl)) rfl ?_
          refine Sx.want rfl rfl rfl rfl (Cm.move rfl) rfl ?_
          refine Sx.want rfl rfl rfl rfl (Cm.move rfl) rfl ?_
          refine Sx.want rfl rfl rfl rfl (Cm.indexAddr sl22 rfl rfl hq4.1.non (by omega)) rfl ?_
          refine Sx.want rfl rfl rfl rfl (Cm.field fld34_1 rfl) rfl ?_
          refine Sx.want rfl rfl rfl rfl (Cm.ld sca3 rfl (hq4.1.rowZ i rfl hqi 1 _ rfl)) rfl ?_
          refine Sx.forkWant rfl rfl rfl rfl (Cm.neq rfl rfl) rfl (fun h56 => ?_) (fun h56 => ?_)
          ·
            refine Sx.calm rfl rfl (Cm.pick_f rfl rfl) rfl ?_
            refine Sx.nil ?_
            refine At.weak [(0, _), (1, _), (5, _), (6, _), (7, _), (16, _), (57, _)] ⟨rfl, rfl, rfl, rfl, rfl, rfl, rfl, trivial⟩ ?_
            refine At.go ?_
            refine Sc.cond_t rfl ?_
            refine Sc.seq ?_
            refine Sc.region ?_
            refine Sl.calm (Cm.assign rfl) rfl ?_
            refine Sl.nil ?_
            refine At.go ?_
            refine Sc.ret ?_
            refine At.block_ret ?_
            refine At.then_ret ?_
            refine At.then_ret ?_
            refine At.block_ret ?_
            refine At.then_ret ?_
            refine At.ret1 rfl rfl ?_
            first
              | exact no _ (fun e => by have := congrArg List.length e; omega) (Foot.refl _ _)
              | (refine no _ (fun e => ?_) (hF4.draws 1)
                 have e2 := nds_get hpi
                 rw [e, nds_get hqi] at e2
                 have e3 := nd_ext.1 (Option.some.inj e2)
                 first
                   | exact h39 e3.1.symm
                   | exact h42 e3.2.1.symm
                   | exact h56 e3.2.2.symm)
              | exact ⟨_, rfl, ⟨fun _ => opt_all (by omega) (by omega) hsm, fun _ => rfl⟩, ⟨_, rfl⟩, hF2⟩
          ·
            refine Sx.calm rfl rfl (Cm.pick_f rfl rfl) rfl ?_
            refine Sx.nil ?_
            refine At.weak [(0, _), (1, _), (5, _), (6, _), (7, _), (16, _), (57, _)] ⟨rfl, rfl, rfl, rfl, rfl, rfl, rfl, trivial⟩ ?_
            refine At.go ?_
            refine Sc.cond_f rfl ?_
            refine Sc.skip ?_
            refine At.block_normal ?_
            refine At.go ?_
            refine Sc.region ?_
            refine Sl.calm (Cm.move rfl) rfl ?_
            refine Sl.calm (Cm.add64 rfl rfl (by omega)) rfl ?_
            refine Sl.calm (Cm.assign rfl) rfl ?_
            refine Sl.nil ?_
            refine At.again (i + 1) ⟨rfl, rfl, rfl, trivial⟩ ⟨by omega, fun j hj => ?_, hF4.draws 1⟩ (by show ps.length - (i + 1) < ps.length - i; omega)
            by_cases e : j = i
            · subst e; rw [nds_get hpi, nds_get hqi]; exact congrArg _ (nd_ext.2 ⟨h39, h42, Classical.not_not.1 h56⟩)
            · exact hsm j (by omega)
        ·
          rw [decide_eq_false h42]
          refine Sx.want rfl rfl rfl rfl (Cm.not rfl) rfl ?_
          refine Sx.calm rfl rfl (Cm.pick_f rfl rfl) rfl ?_
          refine Sx.calm rfl rfl (Cm.move rfl) rfl ?_
          refine Sx.skip rfl rfl rfl rfl rfl rfl ?_
          refine Sx.skip rfl rfl rfl rfl rfl rfl ?_
          refine Sx.skip rfl rfl rfl rfl rfl rfl ?_
          refine Sx.skip rfl rfl rfl rfl rfl rfl ?_
          refine Sx.skip rfl rfl rfl rfl rfl rfl ?_
          refine Sx.skip rfl rfl rfl rfl rfl rfl ?_
          refine Sx.skip rfl rfl rfl rfl rfl rfl ?_
          refine Sx.skip rfl rfl rfl rfl rfl rfl ?_
          refine Sx.skip rfl rfl rfl rfl rfl rfl ?_
          refine Sx.skip rfl rfl rfl rfl rfl rfl ?_
          refine Sx.skip rfl rfl rfl rfl rfl rfl ?_
          refine Sx.calm rfl rfl (Cm.pick_t rfl rfl) rfl ?_
          refine Sx.nil ?_
          refine At.weak [(0, _), (1, _), (5, _), (6, _), (7, _), (16, _), (57, _)] ⟨rfl, rfl, rfl, rfl, rfl, rfl, rfl, trivial⟩ ?_
          refine At.go ?_
          refine Sc.cond_t rfl ?_
          refine Sc.seq ?_
          refine Sc.region ?_
          refine Sl.calm (Cm.assign rfl) rfl ?_
          refine Sl.nil ?_
          refine At.go ?_
          refine Sc.ret ?_
          refine At.block_ret ?_
          refine At.then_ret ?_
          refine At.then_ret ?_
          refine At.block_ret ?_
          refine At.then_ret ?_
          refine At.ret1 rfl rfl ?_
          first
            | exact no _ (fun e => by have := congrArg List.length e; omega) (Foot.refl _ _)
            | (refine no _ (fun e => ?_) (hF4.draws 1)
               have e2 := nds_get hpi
               rw [e, nds_get hqi] at e2
               have e3 := nd_ext.1 (Option.some.inj e2)
               first
                 | exact h39 e3.1.symm
                 | exact h42 e3.2.1.symm
                 | exact h56 e3.2.2.symm)
            | exact ⟨_, rfl, ⟨fun _ => opt_all (by omega) (by omega) hsm, fun _ => rfl⟩, ⟨_, rfl⟩, hF2⟩
      ·
        rw [decide_eq_false h39]
        refine Sx.calm rfl rfl (Cm.not rfl) rfl ?_
        refine Sx.calm rfl rfl (Cm.move rfl) rfl ?_
        refine Sx.skip rfl rfl rfl rfl rfl rfl ?_
        refine Sx.skip rfl rfl rfl rfl rfl rfl ?_
        refine Sx.calm rfl rfl (Cm.pick_t rfl rfl) rfl ?_
        refine Sx.calm rfl rfl (Cm.move rfl) rfl ?_
        refine Sx.skip rfl rfl rfl rfl rfl rfl ?_
        refine Sx.skip rfl rfl rfl rfl rfl rfl ?_
        refine Sx.skip rfl rfl rfl rfl rfl rfl ?_
        refine Sx.skip rfl rfl rfl rfl rfl rfl ?_
        refine Sx.skip rfl rfl rfl rfl rfl rfl ?_
        refine Sx.skip rfl rfl rfl rfl rfl rfl ?_
        refine Sx.skip rfl rfl rfl rfl rfl rfl ?_
        refine Sx.skip rfl rfl rfl rfl rfl rfl ?_
        refine Sx.skip rfl rfl rfl rfl rfl rfl ?_
        refine Sx.skip rfl rfl rfl rfl rfl rfl ?_
        refine Sx.skip rfl rfl rfl rfl rfl rfl ?_
        refine Sx.calm rfl rfl (Cm.pick_t rfl rfl) rfl ?_
        refine Sx.nil ?_
        refine At.weak [(0, _), (1, _), (5, _), (6, _), (7, _), (16, _), (57, _)] ⟨rfl, rfl, rfl, rfl, rfl, rfl, rfl, trivial⟩ ?_
        refine At.go ?_
        refine Sc.cond_t rfl ?_
        refine Sc.seq ?_
        refine Sc.region ?_
        refine Sl.calm (Cm.assign rfl) rfl ?_
        refine Sl.nil ?_
        refine At.go ?_
        refine Sc.ret ?_
        refine At.block_ret ?_
        refine At.then_ret ?_
        refine At.then_ret ?_
        refine At.block_ret ?_
        refine At.then_ret ?_
        refine At.ret1 rfl rfl ?_
        first
          | exact no _ (fun e => by have := congrArg List.length e; omega) (Foot.refl _ _)
          | (refine no _ (fun e => ?_) (hF4.draws 1)
             have e2 := nds_get hpi
             rw [e, nds_get hqi] at e2
             have e3 := nd_ext.1 (Option.some.inj e2)
             first
               | exact h39 e3.1.symm
               | exact h42 e3.2.1.symm
               | exact h56 e3.2.2.symm)
          | exact ⟨_, rfl, ⟨fun _ => opt_all (by omega) (by omega) hsm, fun _ => rfl⟩, ⟨_, rfl⟩, hF2⟩
    ·
      have hie : i = ps.length := by omega
      subst hie
      refine Sl.nil ?_
      refine At.weak [(0, _), (1, _), (5, _), (16, _)] ⟨rfl, rfl, rfl, rfl, trivial⟩ ?_
      refine At.go ?_
      refine Sc.cond_f rfl ?_
      refine Sc.exit ?_
      refine At.then_exit ?_
      refine At.then_exit ?_
      refine At.block_hit ?_
      refine At.go ?_
      refine Sc.seq ?_
      refine Sc.region ?_
      refine Sl.calm (Cm.assign rfl) rfl ?_
      refine Sl.nil ?_
      refine At.go ?_
      refine Sc.ret ?_
      refine At.ret1 rfl rfl ?_
      first
        | exact no _ (fun e => by have := congrArg List.length e; omega) (Foot.refl _ _)
        | (refine no _ (fun e => ?_) (hF4.draws 1)
           have e2 := nds_get hpi
           rw [e, nds_get hqi] at e2
           have e3 := nd_ext.1 (Option.some.inj e2)
           first
             | exact h39 e3.1.symm
             | exact h42 e3.2.1.symm
             | exact h56 e3.2.2.symm)
        | exact ⟨_, rfl, ⟨fun _ => opt_all (by omega) (by omega) hsm, fun _ => rfl⟩, ⟨_, rfl⟩, hF2⟩

/-! in order -/
theorem lessN_irr (a : List (List UInt8)) : lessN a a = false := by unfold lessN; rw [cmpL_self]; rfl
theorem lessN_not {a b : List (List UInt8)} : lessN a b = false ↔ a = b ∨ lessN b a = true := by
  unfold lessN
  rw [cmpL_neg a b]
  constructor
  · intro h
    by_cases e : cmpL a b = 0
    · exact .inl (cmpL_zero e)
    · right; simp at h ⊢; omega
  · rintro (rfl | h)
    · rw [cmpL_self]; rfl
    · simp at h ⊢; omega
theorem lessN_asym {a b : List (List UInt8)} (h : lessN a b = true) : lessN b a = false := lessN_not.2 (.inr h)
theorem lessN_trans {a b c : List (List UInt8)} (h1 : lessN a b = true) (h2 : lessN b c = true) : lessN a c = true := by
  unfold lessN at *
  simp at *
  exact cmpL_trans h1 h2
theorem lessN_nt {a b c : List (List UInt8)} (h1 : lessN a b = false) (h2 : lessN b c = false) : lessN a c = false := by
  rcases lessN_not.1 h1 with rfl | h1
  · exact h2
  · rcases lessN_not.1 h2 with rfl | h2
    · exact lessN_asym h1
    · exact lessN_asym (lessN_trans h2 h1)
def ordP (p q : NdH × Nd) : Prop := lessN q.2.names p.2.names = false
theorem ins_ord {ys : List (NdH × Nd)} {k : Nat} {p : NdH × Nd} (h : ys.Pairwise ordP) (hk : k ≤ ys.length) (h1 : ∀ j q, k ≤ j → ys[j]? = some q → lessN p.2.names q.2.names = true) (h2 : ∀ q, 0 < k → ys[k - 1]? = some q → lessN p.2.names q.2.names = false) :
    (ys.take k ++ p :: ys.drop k).Pairwise ordP := by
  have hall := List.take_append_drop k ys
  rw [← hall] at h
  obtain ⟨a1, a2, a3⟩ := List.pairwise_append.1 h
  refine List.pairwise_append.2 ⟨a1, List.pairwise_cons.2 ⟨fun q hq => ?_, a2⟩, fun a ha b hb => ?_⟩
  · obtain ⟨j, hj⟩ := List.getElem?_of_mem hq
    rw [List.getElem?_drop] at hj
    exact lessN_asym (h1 _ q (by omega) hj)
  · rcases List.mem_cons.1 hb with rfl | hb
    · have hk0 : 0 < k := by
        rcases Nat.eq_zero_or_pos k with h | h
        · subst h; simp at ha
        · exact h
      have hy : ys[k - 1]? = some (ys[k - 1]'(by omega)) := List.getElem?_eq_getElem (by omega)
      have hb2 := h2 _ hk0 hy
      obtain ⟨j, hj⟩ := List.getElem?_of_mem ha
      rw [List.getElem?_take] at hj
      split at hj
      · rename_i hjk
        by_cases e : j = k - 1
        · subst e; rw [hy] at hj; cases hj; exact hb2
        · have hpw := List.pairwise_iff_getElem.1 (hall ▸ h) j (k - 1) (by omega) (by omega) (by omega)
          rw [(List.getElem?_eq_some_iff.1 hj).2] at hpw
          exact lessN_nt hb2 hpw
      · cases hj
    · exact a3 a ha b hb
theorem ins_perm {α : Type} {ys zs : List α} {k : Nat} {p : α} (h : ys.Perm zs) : (ys.take k ++ p :: ys.drop k).Perm (zs ++ [p]) := by
  refine List.perm_middle.trans ?_
  rw [List.take_append_drop]
  exact (List.Perm.cons p h).trans (List.perm_append_comm (l₁ := [p]) (l₂ := zs))
def srtP (ps : List (NdH × Nd)) : List (NdH × Nd) := ps.mergeSort (fun p q => !lessN q.2.names p.2.names)
theorem srt_perm (ps : List (NdH × Nd)) : (srtP ps).Perm ps := List.mergeSort_perm _ _
theorem srt_ord (ps : List (NdH × Nd)) : (srtP ps).Pairwise ordP := by
  have h := List.pairwise_mergeSort (le := fun p q : NdH × Nd => !lessN q.2.names p.2.names) (fun a b c h1 h2 => by
    simp only [Bool.not_eq_true'] at *
    exact lessN_nt h2 h1) (fun a b => by
    simp only [Bool.or_eq_true, Bool.not_eq_true']
    cases h : lessN b.2.names a.2.names with
    | false => exact .inl rfl
    | true => exact .inr (lessN_asym h)) ps
  exact h.imp (fun h => by simpa [ordP] using h)
theorem names_inj {ps : List (NdH × Nd)} (ht : ¬ twiceL (nds ps)) {p q : NdH × Nd} (hp : p ∈ ps) (hq : q ∈ ps) (e : p.2.names = q.2.names) : p = q := by
  obtain ⟨i, hi⟩ := List.getElem?_of_mem hp
  obtain ⟨j, hj⟩ := List.getElem?_of_mem hq
  rcases Nat.lt_trichotomy i j with h | h | h
  · exact absurd ((twice_iff ps).2 ⟨i, j, p, q, h, hi, hj, e⟩) ht
  · subst h; rw [hi] at hj; exact Option.some.inj hj
  · exact absurd ((twice_iff ps).2 ⟨j, i, q, p, h, hj, hi, e.symm⟩) ht
theorem srt_uniq {ps qs : List (NdH × Nd)} (ht : ¬ twiceL (nds ps)) (hp : qs.Perm ps) (hs : qs.Pairwise ordP) : qs = srtP ps :=
  List.Perm.eq_of_pairwise (le := ordP) (fun a b ha hb h1 h2 => by
    have ha' := hp.mem_iff.1 ha
    have hb' := (srt_perm ps).mem_iff.1 hb
    refine names_inj ht ha' hb' ?_
    rcases lessN_not.1 h2 with e | h2
    · exact e
    · unfold ordP at h1; rw [h1] at h2; cases h2) hs (srt_ord ps) (hp.trans (srt_perm ps).symm)
end Go.Proofs.Ytpnfjfbfgaiolaa
