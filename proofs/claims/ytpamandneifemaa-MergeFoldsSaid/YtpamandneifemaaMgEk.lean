/- merge: trees that may be above others; those that a law looks at. No condition beyond the bounds that each states. -/
import Derived.Test.YtpamandneifemaaMgNk
import Derived.Test.YtpamandneifemaaMgRk
namespace Go.Proofs.Ytpamandneifemaa
open Go Go.RowKit Go.Maps
set_option linter.unusedVariables false

def whiteN (n : Nd) : Prop := (n.md = 0 ∧ n.ud = 0 ∧ n.gd = 0) ∧ n.data = [] ∧ n.tgt = [] ∧ n.xs = [] ∧ n.opq = false
instance (n : Nd) : Decidable (whiteN n) := by unfold whiteN; exact inferInstance
def offO (n : Nd) : Nd := { n with opq := false }
def mayU (n : Nd) : Prop := if n.kind = 4 then whiteN n else if n.kind = 1 then mayN (offO n) else mayN n
instance (n : Nd) : Decidable (mayU n) := by unfold mayU; exact inferInstance
def lnkU (b a : Nd) : Prop := a.ino = b.ino → a.kind ≠ 1 ∧ a.kind ≠ 4 ∧ Alk a b
/-- a tree that may be above others -/
def okU (l : List Nd) : Prop := plc l = 0 ∧ (∀ n ∈ l, mayU n) ∧ l.Pairwise lnkU
variable {D : Nat → Prop}
set_option maxHeartbeats 4000000 in
theorem mayU_ok (p : NdH × Nd) (W : World) (hn : NdV D W.heap p) (hsm : smN p.2) :
    Calls Try.prog 46 [.agg (encN p).toArray].toArray W (Ret fun v w' => v = .bool (decide (mayU p.2)) ∧ Foot nob W w') := by
  have no : ∀ w', ¬ mayU p.2 → Foot nob W w' → Ret (fun v w' => v = .bool (decide (mayU p.2)) ∧ Foot nob W w') (.returned (.bool false)) w' := fun w' h f => ⟨_, rfl, by rw [decide_eq_false h], f⟩
  refine calls_of_sc 38 [(0, _)] Try.func46 rfl rfl rfl (enter_slots ⟨rfl, trivial⟩) ?_
  refine Sc.seq ?_
  refine Sc.region ?_
  refine Sl.box rfl rfl ?_
  intro w1 hg1 hs1 hf1
  obtain ⟨g, hg⟩ : ∃ g, g = W.heap.size := ⟨_, rfl⟩
  rw [← hg] at hg1 hs1 ⊢
  replace hg1 : w1.heap[g]? = some (.cells (encN p).toArray 35 (0, 0)) := hg1
  have hn1 := hn.grow hf1
  refine Sl.calm (Cm.assign rfl) rfl ?_
  refine Sl.nil ?_
  refine At.go ?_
  refine Sc.seq ?_
  refine Sc.seq ?_
  refine Sc.region ?_
  refine Sl.calm (Cm.field fld35_2 rfl) rfl ?_
  refine Sl.calm (Cm.ld sca3 rfl (cellF hg1 rfl)) rfl ?_
  refine Sl.fork (Cm.eql rfl rfl) rfl (fun h5 => ?_) (fun h5 => ?_)
  ·
    have em : mayU p.2 ↔ whiteN p.2 := by unfold mayU; rw [if_pos h5]
    refine Sl.nil ?_
    refine At.weak [(0, _), (1, _), (2, _), (5, _)] ⟨rfl, rfl, rfl, rfl, trivial⟩ ?_
    refine At.go ?_
    refine Sc.cond_t rfl ?_
    refine Sc.seq ?_
    refine Sc.region ?_
    refine Sl.calm (Cm.field fld35_3 rfl) rfl ?_
    refine Sl.calm (Cm.ldM (cs := encA p.2) agg31 rfl (cellsF hg1 3 rfl)) rfl ?_
    refine Sl.calm (Cm.ofEq (u := .agg [.int .i64 0, .int .i64 0, .int .i64 0].toArray) (Cm.build plc31 zc31 rfl rfl) rfl) rfl ?_
    refine Sl.fork (Cm.eqlA3 stA stAi stAh stAg rfl rfl) rfl (fun h9 => ?_) (fun h9 => ?_)
    ·
      refine Sl.calm (Cm.move rfl) rfl ?_
      refine Sl.want rfl rfl (Cm.field fld35_4 rfl) rfl ?_
      refine Sl.want rfl rfl (Cm.ld sca32 rfl (cellF hg1 rfl)) rfl ?_
      refine Sl.want rfl rfl (Cm.len sl32 rfl) rfl ?_
      rw [hn1.2.1.1]
      refine Sl.forkWant rfl rfl (Cm.eql rfl rfl) rfl (fun h14 => ?_) (fun h14 => ?_)
      ·
        refine Sl.calm (Cm.pick_t rfl rfl) rfl ?_
        refine Sl.calm (Cm.move rfl) rfl ?_
        refine Sl.want rfl rfl (Cm.field fld35_5 rfl) rfl ?_
        refine Sl.want rfl rfl (Cm.ld sca9 rfl (cellF hg1 rfl)) rfl ?_
        refine Sl.forkWant rfl rfl (Cm.eqlBs rfl rfl) rfl (fun h19 => ?_) (fun h19 => ?_)
        ·
          refine Sl.calm (Cm.pick_t rfl rfl) rfl ?_
          refine Sl.calm (Cm.move rfl) rfl ?_
          refine Sl.want rfl rfl (Cm.field fld35_6 rfl) rfl ?_
          refine Sl.want rfl rfl (Cm.ld sca33 rfl (cellF hg1 rfl)) rfl ?_
          refine Sl.want rfl rfl (Cm.len sl33 rfl) rfl ?_
          rw [hn1.2.2.1]
          refine Sl.forkWant rfl rfl (Cm.eql rfl rfl) rfl (fun h25 => ?_) (fun h25 => ?_)
          ·
            refine Sl.calm (Cm.pick_t rfl rfl) rfl ?_
            refine Sl.calm (Cm.move rfl) rfl ?_
            refine Sl.want rfl rfl (Cm.field fld35_7 rfl) rfl ?_
            refine Sl.want rfl rfl (Cm.ld sca4 rfl (cellF hg1 rfl)) rfl ?_
            refine Sl.forkWant rfl rfl (Cm.notB rfl) rfl (fun h30 => ?_) (fun h30 => ?_)
            ·
              refine Sl.calm (Cm.pick_t rfl rfl) rfl ?_
              refine Sl.calm (Cm.assign rfl) rfl ?_
              refine Sl.nil ?_
              refine At.weak [(0, _), (1, _), (2, _), (5, _)] ⟨rfl, rfl, rfl, rfl, trivial⟩ ?_
              refine At.go ?_
              refine Sc.ret ?_
              refine At.then_ret ?_
              refine At.ret1 rfl rfl ?_
              first
                | exact ⟨_, rfl, by rw [decide_eq_decide.2 em], hF2.trans hf3⟩
                | exact ⟨_, rfl, by rw [decide_eq_decide.2 em], hf1.trans hf3⟩
                | exact no _ (fun hm => h9 (em.1 hm).1) hf1
                | exact no _ (fun hm => h14 (by rw [(em.1 hm).2.1]; rfl)) hf1
                | exact no _ (fun hm => h19 (em.1 hm).2.2.1) hf1
                | exact no _ (fun hm => h25 (by rw [(em.1 hm).2.2.2.1]; rfl)) hf1
                | exact no _ (fun hm => h30 (em.1 hm).2.2.2.2) hf1
                | exact ⟨_, rfl, by rw [decide_eq_true (em.2 ⟨h9, List.length_eq_zero_iff.1 (by omega), h19, List.length_eq_zero_iff.1 (by omega), h30⟩)], hf1⟩
            ·
              refine Sl.calm (Cm.pick_t rfl rfl) rfl ?_
              refine Sl.calm (Cm.assign rfl) rfl ?_
              refine Sl.nil ?_
              refine At.weak [(0, _), (1, _), (2, _), (5, _)] ⟨rfl, rfl, rfl, rfl, trivial⟩ ?_
              refine At.go ?_
              refine Sc.ret ?_
              refine At.then_ret ?_
              refine At.ret1 rfl rfl ?_
              first
                | exact ⟨_, rfl, by rw [decide_eq_decide.2 em], hF2.trans hf3⟩
                | exact ⟨_, rfl, by rw [decide_eq_decide.2 em], hf1.trans hf3⟩
                | exact no _ (fun hm => h9 (em.1 hm).1) hf1
                | exact no _ (fun hm => h14 (by rw [(em.1 hm).2.1]; rfl)) hf1
                | exact no _ (fun hm => h19 (em.1 hm).2.2.1) hf1
                | exact no _ (fun hm => h25 (by rw [(em.1 hm).2.2.2.1]; rfl)) hf1
                | exact no _ (fun hm => h30 (em.1 hm).2.2.2.2) hf1
                | exact ⟨_, rfl, by rw [decide_eq_true (em.2 ⟨h9, List.length_eq_zero_iff.1 (by omega), h19, List.length_eq_zero_iff.1 (by omega), h30⟩)], hf1⟩
          ·
            refine Sl.calm (Cm.pick_t rfl rfl) rfl ?_
            refine Sl.calm (Cm.move rfl) rfl ?_
            refine Sl.skip rfl rfl rfl rfl ?_
            refine Sl.skip rfl rfl rfl rfl ?_
            refine Sl.skip rfl rfl rfl rfl ?_
            refine Sl.calm (Cm.pick_f rfl rfl) rfl ?_
            refine Sl.calm (Cm.assign rfl) rfl ?_
            refine Sl.nil ?_
            refine At.weak [(0, _), (1, _), (2, _), (5, _)] ⟨rfl, rfl, rfl, rfl, trivial⟩ ?_
            refine At.go ?_
            refine Sc.ret ?_
            refine At.then_ret ?_
            refine At.ret1 rfl rfl ?_
            first
              | exact ⟨_, rfl, by rw [decide_eq_decide.2 em], hF2.trans hf3⟩
              | exact ⟨_, rfl, by rw [decide_eq_decide.2 em], hf1.trans hf3⟩
              | exact no _ (fun hm => h9 (em.1 hm).1) hf1
              | exact no _ (fun hm => h14 (by rw [(em.1 hm).2.1]; rfl)) hf1
              | exact no _ (fun hm => h19 (em.1 hm).2.2.1) hf1
              | exact no _ (fun hm => h25 (by rw [(em.1 hm).2.2.2.1]; rfl)) hf1
              | exact no _ (fun hm => h30 (em.1 hm).2.2.2.2) hf1
              | exact ⟨_, rfl, by rw [decide_eq_true (em.2 ⟨h9, List.length_eq_zero_iff.1 (by omega), h19, List.length_eq_zero_iff.1 (by omega), h30⟩)], hf1⟩
        ·
          refine Sl.calm (Cm.pick_t rfl rfl) rfl ?_
          refine Sl.calm (Cm.move rfl) rfl ?_
          refine Sl.skip rfl rfl rfl rfl ?_
          refine Sl.skip rfl rfl rfl rfl ?_
          refine Sl.skip rfl rfl rfl rfl ?_
          refine Sl.skip rfl rfl rfl rfl ?_
          refine Sl.calm (Cm.pick_f rfl rfl) rfl ?_
          refine Sl.calm (Cm.move rfl) rfl ?_
          refine Sl.skip rfl rfl rfl rfl ?_
          refine Sl.skip rfl rfl rfl rfl ?_
          refine Sl.skip rfl rfl rfl rfl ?_
          refine Sl.calm (Cm.pick_f rfl rfl) rfl ?_
          refine Sl.calm (Cm.assign rfl) rfl ?_
          refine Sl.nil ?_
          refine At.weak [(0, _), (1, _), (2, _), (5, _)] ⟨rfl, rfl, rfl, rfl, trivial⟩ ?_
          refine At.go ?_
          refine Sc.ret ?_
          refine At.then_ret ?_
          refine At.ret1 rfl rfl ?_
          first
            | exact ⟨_, rfl, by rw [decide_eq_decide.2 em], hF2.trans hf3⟩
            | exact ⟨_, rfl, by rw [decide_eq_decide.2 em], hf1.trans hf3⟩
            | exact no _ (fun hm => h9 (em.1 hm).1) hf1
            | exact no _ (fun hm => h14 (by rw [(em.1 hm).2.1]; rfl)) hf1
            | exact no _ (fun hm => h19 (em.1 hm).2.2.1) hf1
            | exact no _ (fun hm => h25 (by rw [(em.1 hm).2.2.2.1]; rfl)) hf1
            | exact no _ (fun hm => h30 (em.1 hm).2.2.2.2) hf1
            | exact ⟨_, rfl, by rw [decide_eq_true (em.2 ⟨h9, List.length_eq_zero_iff.1 (by omega), h19, List.length_eq_zero_iff.1 (by omega), h30⟩)], hf1⟩
      ·
        refine Sl.calm (Cm.pick_t rfl rfl) rfl ?_
        refine Sl.calm (Cm.move rfl) rfl ?_
        refine Sl.skip rfl rfl rfl rfl ?_
        refine Sl.skip rfl rfl rfl rfl ?_
        refine Sl.skip rfl rfl rfl rfl ?_
        refine Sl.calm (Cm.pick_f rfl rfl) rfl ?_
        refine Sl.calm (Cm.move rfl) rfl ?_
        refine Sl.skip rfl rfl rfl rfl ?_
        refine Sl.skip rfl rfl rfl rfl ?_
        refine Sl.skip rfl rfl rfl rfl ?_
        refine Sl.skip rfl rfl rfl rfl ?_
        refine Sl.calm (Cm.pick_f rfl rfl) rfl ?_
        refine Sl.calm (Cm.move rfl) rfl ?_
        refine Sl.skip rfl rfl rfl rfl ?_
        refine Sl.skip rfl rfl rfl rfl ?_
        refine Sl.skip rfl rfl rfl rfl ?_
        refine Sl.calm (Cm.pick_f rfl rfl) rfl ?_
        refine Sl.calm (Cm.assign rfl) rfl ?_
        refine Sl.nil ?_
        refine At.weak [(0, _), (1, _), (2, _), (5, _)] ⟨rfl, rfl, rfl, rfl, trivial⟩ ?_
        refine At.go ?_
        refine Sc.ret ?_
        refine At.then_ret ?_
        refine At.ret1 rfl rfl ?_
        first
          | exact ⟨_, rfl, by rw [decide_eq_decide.2 em], hF2.trans hf3⟩
          | exact ⟨_, rfl, by rw [decide_eq_decide.2 em], hf1.trans hf3⟩
          | exact no _ (fun hm => h9 (em.1 hm).1) hf1
          | exact no _ (fun hm => h14 (by rw [(em.1 hm).2.1]; rfl)) hf1
          | exact no _ (fun hm => h19 (em.1 hm).2.2.1) hf1
          | exact no _ (fun hm => h25 (by rw [(em.1 hm).2.2.2.1]; rfl)) hf1
          | exact no _ (fun hm => h30 (em.1 hm).2.2.2.2) hf1
          | exact ⟨_, rfl, by rw [decide_eq_true (em.2 ⟨h9, List.length_eq_zero_iff.1 (by omega), h19, List.length_eq_zero_iff.1 (by omega), h30⟩)], hf1⟩
    ·
      refine Sl.calm (Cm.move rfl) rfl ?_
      refine Sl.skip rfl rfl rfl rfl ?_
      refine Sl.skip rfl rfl rfl rfl ?_
      refine Sl.skip rfl rfl rfl rfl ?_
      refine Sl.skip rfl rfl rfl rfl ?_
      refine Sl.calm (Cm.pick_f rfl rfl) rfl ?_
      refine Sl.calm (Cm.move rfl) rfl ?_
      refine Sl.skip rfl rfl rfl rfl ?_
      refine Sl.skip rfl rfl rfl rfl ?_
      refine Sl.skip rfl rfl rfl rfl ?_
      refine Sl.calm (Cm.pick_f rfl rfl) rfl ?_
      refine Sl.calm (Cm.move rfl) rfl ?_
      refine Sl.skip rfl rfl rfl rfl ?_
      refine Sl.skip rfl rfl rfl rfl ?_
      refine Sl.skip rfl rfl rfl rfl ?_
      refine Sl.skip rfl rfl rfl rfl ?_
      refine Sl.calm (Cm.pick_f rfl rfl) rfl ?_
      refine Sl.calm (Cm.move rfl) rfl ?_
      refine Sl.skip rfl rfl rfl rfl ?_
      refine Sl.skip rfl rfl rfl rfl ?_
      refine Sl.skip rfl rfl rfl rfl ?_
      refine Sl.calm (Cm.pick_f rfl rfl) rfl ?_
      refine Sl.calm (Cm.assign rfl) rfl ?_
      refine Sl.nil ?_
      refine At.weak [(0, _), (1, _), (2, _), (5, _)] ⟨rfl, rfl, rfl, rfl, trivial⟩ ?_
      refine At.go ?_
      refine Sc.ret ?_
      refine At.then_ret ?_
      refine At.ret1 rfl rfl ?_
      first
        | exact ⟨_, rfl, by rw [decide_eq_decide.2 em], hF2.trans hf3⟩
        | exact ⟨_, rfl, by rw [decide_eq_decide.2 em], hf1.trans hf3⟩
        | exact no _ (fun hm => h9 (em.1 hm).1) hf1
        | exact no _ (fun hm => h14 (by rw [(em.1 hm).2.1]; rfl)) hf1
        | exact no _ (fun hm => h19 (em.1 hm).2.2.1) hf1
        | exact no _ (fun hm => h25 (by rw [(em.1 hm).2.2.2.1]; rfl)) hf1
        | exact no _ (fun hm => h30 (em.1 hm).2.2.2.2) hf1
        | exact ⟨_, rfl, by rw [decide_eq_true (em.2 ⟨h9, List.length_eq_zero_iff.1 (by omega), h19, List.length_eq_zero_iff.1 (by omega), h30⟩)], hf1⟩
  ·
    refine Sl.nil ?_
    refine At.weak [(0, _), (1, _), (2, _), (5, _)] ⟨rfl, rfl, rfl, rfl, trivial⟩ ?_
    refine At.go ?_
    refine Sc.cond_f rfl ?_
    refine Sc.skip ?_
    refine At.go ?_
    refine Sc.seq ?_
    refine Sc.seq ?_
    refine Sc.region ?_
    refine Sl.calm (Cm.field fld35_2 rfl) rfl ?_
    refine Sl.calm (Cm.ld sca3 rfl (cellF hg1 rfl)) rfl ?_
    refine Sl.fork (Cm.eql rfl rfl) rfl (fun h34 => ?_) (fun h34 => ?_)
    ·
      have em : mayU p.2 ↔ mayN (offO p.2) := by unfold mayU; rw [if_neg h5, if_pos h34]
      refine Sl.nil ?_
      refine At.weak [(0, _), (1, _), (2, _), (5, _), (34, _)] ⟨rfl, rfl, rfl, rfl, rfl, trivial⟩ ?_
      refine At.go ?_
      refine Sc.cond_t rfl ?_
      refine Sc.region ?_
      refine Sl.calm (Cm.field fld35_7 rfl) rfl ?_
      refine Sl.store sca4 rfl rfl rfl hg1 rfl ?_
      intro w2 hg2 hs2 hf2
      have hg2 : w2.heap[g]? = some (.cells (encN (p.1, offO p.2)).toArray 35 (0, 0)) := hg2
      have hF2 : Foot nob W w2 := hf1.trans_to hf2 (fun k e => .inr (by have e : k = g := e; omega))
      refine Sl.nil ?_
      refine At.weak [(0, _), (1, _), (2, _), (5, _), (34, _)] ⟨rfl, rfl, rfl, rfl, rfl, trivial⟩ ?_
      refine At.go ?_
      refine Sc.seq ?_
      refine Sc.region ?_
      refine Sl.calm (Cm.ldM (cs := encN (p.1, offO p.2)) agg35 rfl (cellsF hg2 0 rfl)) rfl ?_
      refine Sl.call fn41 rfl (rmay_ok (D := D) (p.1, offO p.2) w2 (hn.grow hF2) hsm) rfl ?_
      rintro _ w3 ⟨rfl, hf3⟩
      refine Sl.calm (Cm.assign rfl) rfl ?_
      refine Sl.nil ?_
      refine At.weak [(0, _), (1, _), (2, _), (5, _), (34, _)] ⟨rfl, rfl, rfl, rfl, rfl, trivial⟩ ?_
      refine At.go ?_
      refine Sc.ret ?_
      refine At.ret1 rfl rfl ?_
      first
        | exact ⟨_, rfl, by rw [decide_eq_decide.2 em], hF2.trans hf3⟩
        | exact ⟨_, rfl, by rw [decide_eq_decide.2 em], hf1.trans hf3⟩
        | exact no _ (fun hm => h9 (em.1 hm).1) hf1
        | exact no _ (fun hm => h14 (by rw [(em.1 hm).2.1]; rfl)) hf1
        | exact no _ (fun hm => h19 (em.1 hm).2.2.1) hf1
        | exact no _ (fun hm => h25 (by rw [(em.1 hm).2.2.2.1]; rfl)) hf1
        | exact no _ (fun hm => h30 (em.1 hm).2.2.2.2) hf1
        | exact ⟨_, rfl, by rw [decide_eq_true (em.2 ⟨h9, List.length_eq_zero_iff.1 (by omega), h19, List.length_eq_zero_iff.1 (by omega), h30⟩)], hf1⟩
    ·
      have em : mayU p.2 ↔ mayN p.2 := by unfold mayU; rw [if_neg h5, if_neg h34]
      refine Sl.nil ?_
      refine At.weak [(0, _), (1, _), (2, _), (5, _), (34, _)] ⟨rfl, rfl, rfl, rfl, rfl, trivial⟩ ?_
      refine At.go ?_
      refine Sc.cond_f rfl ?_
      refine Sc.skip ?_
      refine At.go ?_
      refine Sc.seq ?_
      refine Sc.region ?_
      refine Sl.calm (Cm.ldM (cs := encN p) agg35 rfl (cellsF hg1 0 rfl)) rfl ?_
      refine Sl.call fn41 rfl (rmay_ok p w1 hn1 hsm) rfl ?_
      rintro _ w3 ⟨rfl, hf3⟩
      refine Sl.calm (Cm.assign rfl) rfl ?_
      refine Sl.nil ?_
      refine At.weak [(0, _), (1, _), (2, _), (5, _), (34, _)] ⟨rfl, rfl, rfl, rfl, rfl, trivial⟩ ?_
      refine At.go ?_
      refine Sc.ret ?_
      refine At.ret1 rfl rfl ?_
      first
        | exact ⟨_, rfl, by rw [decide_eq_decide.2 em], hF2.trans hf3⟩
        | exact ⟨_, rfl, by rw [decide_eq_decide.2 em], hf1.trans hf3⟩
        | exact no _ (fun hm => h9 (em.1 hm).1) hf1
        | exact no _ (fun hm => h14 (by rw [(em.1 hm).2.1]; rfl)) hf1
        | exact no _ (fun hm => h19 (em.1 hm).2.2.1) hf1
        | exact no _ (fun hm => h25 (by rw [(em.1 hm).2.2.2.1]; rfl)) hf1
        | exact no _ (fun hm => h30 (em.1 hm).2.2.2.2) hf1
        | exact ⟨_, rfl, by rw [decide_eq_true (em.2 ⟨h9, List.length_eq_zero_iff.1 (by omega), h19, List.length_eq_zero_iff.1 (by omega), h30⟩)], hf1⟩
theorem lnkU_at {ps : List (NdH × Nd)} {i k : Nat} {p q : NdH × Nd} (h : (nds ps).Pairwise lnkU) (hk : k < i) (hq : ps[k]? = some q) (hp : ps[i]? = some p) : lnkU q.2 p.2 := by
  have e1 := List.getElem?_eq_some_iff.1 (nds_get hq)
  have e2 := List.getElem?_eq_some_iff.1 (nds_get hp)
  have := List.pairwise_iff_getElem.1 h k i e1.1 e2.1 hk
  rw [e1.2, e2.2] at this; exact this
set_option maxHeartbeats 4000000 in
theorem checkU_ok (lo : Option Addr) (lc : Nat) (ps : List (NdH × Nd)) (W : World) (hv : NodesV D W.heap lo lc ps) (hsm : ∀ p ∈ ps, smN p.2) :
    Calls Try.prog 30 [.slice lo ps.length lc].toArray W (Ret fun v w' => ∃ z : Int, v = .int .i64 z ∧ (z = 0 ↔ okU (nds ps)) ∧ Foot nob W w') := by
  have h63 := hv.1.len63
  refine calls_of_sc 76 [(0, _)] Try.func30 rfl rfl rfl (enter_slots ⟨rfl, trivial⟩) ?_
  refine Sc.seq ?_
  refine Sc.region ?_
  refine Sl.calm (Cm.assign rfl) rfl ?_
  refine Sl.nil ?_
  refine At.go ?_
  refine Sc.seq ?_
  refine Sc.region ?_
  refine Sl.calm (Cm.move rfl) rfl ?_
  refine Sl.call fn40 rfl (rplaced_ok lo lc ps W hv hsm) rfl ?_
  rintro _ w2 ⟨rfl, hf2⟩
  refine Sl.calm (Cm.assign rfl) rfl ?_
  refine Sl.nil ?_
  refine At.weak [(0, _), (2, _), (3, _)] ⟨rfl, rfl, rfl, trivial⟩ ?_
  refine At.go ?_
  refine Sc.seq ?_
  refine Sc.seq ?_
  refine Sc.region ?_
  refine Sl.calm (Cm.move rfl) rfl ?_
  refine Sl.fork (Cm.neq rfl rfl) rfl (fun h11 => ?_) (fun h11 => ?_)
  ·
    refine Sl.nil ?_
    refine At.weak [(0, _), (2, _), (3, _), (11, _)] ⟨rfl, rfl, rfl, rfl, trivial⟩ ?_
    refine At.go ?_
    refine Sc.cond_t rfl ?_
    refine Sc.seq ?_
    refine Sc.region ?_
    refine Sl.calm (Cm.move rfl) rfl ?_
    refine Sl.calm (Cm.assign rfl) rfl ?_
    refine Sl.nil ?_
    refine At.weak [(0, _), (2, _), (3, _), (11, _)] ⟨rfl, rfl, rfl, rfl, trivial⟩ ?_
    refine At.go ?_
    refine Sc.ret ?_
    refine At.then_ret ?_
    refine At.ret1 rfl rfl ?_
    first
      | exact ⟨_, rfl, _, rfl, ⟨fun e => absurd e h11, fun h => absurd h.1 h11⟩, hf2⟩
      | exact ⟨_, rfl, _, rfl, ⟨fun e => absurd e (by decide), fun h => absurd (h.2.1 p.2 (List.mem_of_getElem? (nds_get hp))) h23⟩, hF3.trans hf4⟩
      | exact ⟨_, rfl, _, rfl, ⟨fun e => absurd e (by decide), fun h => absurd h54 (lnkU_at h.2.2 hkl hq hp h47).1⟩, hF4.draws _⟩
      | exact ⟨_, rfl, _, rfl, ⟨fun e => absurd e (by decide), fun h => absurd h61 (lnkU_at h.2.2 hkl hq hp h47).2.1⟩, hF4.draws _⟩
      | exact ⟨_, rfl, _, rfl, ⟨fun e => absurd e (by decide), fun h => absurd (lnkU_at h.2.2 hkl hq hp h47).2.2 h72⟩, hF5⟩
      | exact ⟨_, rfl, _, rfl, ⟨fun _ => ⟨hz, hmy, hlk⟩, fun _ => rfl⟩, hF3⟩
  ·
    have hz : plc (nds ps) = 0 := Classical.not_not.1 h11
    refine Sl.nil ?_
    refine At.weak [(0, _), (2, _), (3, _), (11, _)] ⟨rfl, rfl, rfl, rfl, trivial⟩ ?_
    refine At.go ?_
    refine Sc.cond_f rfl ?_
    refine Sc.skip ?_
    refine At.go ?_
    refine Sc.seq ?_
    refine Sc.seq ?_
    refine Sc.region ?_
    refine Sl.calm (Cm.assign rfl) rfl ?_
    refine Sl.nil ?_
    refine At.go ?_
    refine Sc.block ?_
    refine Sc.loop (β := Nat) (fun i => [(0, .slice lo ps.length lc), (4, .int .i64 i)]) (fun i w => i ≤ ps.length ∧ (∀ n ∈ (nds ps).take i, mayU n) ∧ Foot nob W w) (fun i => ps.length - i) 0 ⟨rfl, rfl, trivial⟩ ⟨Nat.zero_le _, by simp, hf2⟩ ?_
    rintro i w3 ⟨hi, hmy, hF3⟩
    refine Sc.seq ?_
    refine Sc.seq ?_
    refine Sc.region ?_
    refine Sl.calm (Cm.move rfl) rfl ?_
    refine Sl.calm (Cm.move rfl) rfl ?_
    refine Sl.calm (Cm.len sl25 rfl) rfl ?_
    refine Sl.fork (Cm.lss rfl rfl) rfl (fun h16 => ?_) (fun h16 => ?_)
    ·
      have hil : i < ps.length := by omega
      obtain ⟨p, hp⟩ : ∃ p, ps[i]? = some p := ⟨_, List.getElem?_eq_getElem hil⟩
      have hpm := List.mem_of_getElem? hp
      have hv3 := hv.grow hF3
      refine Sl.nil ?_
      refine At.weak [(0, _), (4, _), (16, _)] ⟨rfl, rfl, rfl, trivial⟩ ?_
      refine At.go ?_
      refine Sc.cond_t rfl ?_
      refine Sc.skip ?_
      refine At.go ?_
      refine Sc.seq ?_
      refine Sc.block ?_
      refine Sc.seq ?_
      refine Sc.region ?_
      refine Sl.calm (Cm.move rfl) rfl ?_
      refine Sl.calm (Cm.move rfl) rfl ?_
      refine Sl.calm (Cm.indexAddr sl25 rfl rfl hv3.1.non (by omega)) rfl ?_
      refine Sl.calm (Cm.ldM (cs := encN p) agg35 rfl (fun j v hj => hv3.1.rowZ i rfl hp j v hj)) rfl ?_
      refine Sl.call fn46 rfl (mayU_ok p w3 (hv3.2 p hpm) (hsm p hpm)) rfl ?_
      rintro _ w4 ⟨rfl, hf4⟩
      by_cases h23 : mayU p.2
      ·
        rw [decide_eq_true h23]
        refine Sl.calm (Cm.assign rfl) rfl ?_
        refine Sl.nil ?_
        refine At.weak [(0, _), (4, _), (5, _), (16, _)] ⟨rfl, rfl, rfl, rfl, trivial⟩ ?_
        refine At.go ?_
        refine Sc.seq ?_
        refine Sc.region ?_
        refine Sl.calm (Cm.move rfl) rfl ?_
        refine Sl.calm (Cm.not rfl) rfl ?_
        refine Sl.nil ?_
        refine At.weak [(0, _), (4, _), (5, _), (16, _), (25, _)] ⟨rfl, rfl, rfl, rfl, rfl, trivial⟩ ?_
        refine At.go ?_
        refine Sc.cond_f rfl ?_
        refine Sc.skip ?_
        refine At.block_normal ?_
        refine At.go ?_
        refine Sc.region ?_
        refine Sl.calm (Cm.move rfl) rfl ?_
        refine Sl.calm (Cm.add64 rfl rfl (by omega)) rfl ?_
        refine Sl.calm (Cm.assign rfl) rfl ?_
        refine Sl.nil ?_
        exact At.again (i + 1) ⟨rfl, rfl, trivial⟩ ⟨by omega, allT hp hmy h23, hF3.trans hf4⟩ (by show ps.length - (i + 1) < ps.length - i; omega)
      ·
        rw [decide_eq_false h23]
        refine Sl.calm (Cm.assign rfl) rfl ?_
        refine Sl.nil ?_
        refine At.weak [(0, _), (4, _), (5, _), (16, _)] ⟨rfl, rfl, rfl, rfl, trivial⟩ ?_
        refine At.go ?_
        refine Sc.seq ?_
        refine Sc.region ?_
        refine Sl.calm (Cm.move rfl) rfl ?_
        refine Sl.calm (Cm.not rfl) rfl ?_
        refine Sl.nil ?_
        refine At.weak [(0, _), (4, _), (5, _), (16, _), (25, _)] ⟨rfl, rfl, rfl, rfl, rfl, trivial⟩ ?_
        refine At.go ?_
        refine Sc.cond_t rfl ?_
        refine Sc.seq ?_
        refine Sc.region ?_
        refine Sl.calm (Cm.assign rfl) rfl ?_
        refine Sl.nil ?_
        refine At.go ?_
        refine Sc.ret ?_
        refine At.block_ret ?_
        refine At.then_ret ?_
        refine At.then_ret ?_
        refine At.block_ret ?_
        refine At.then_ret ?_
        refine At.ret1 rfl rfl ?_
        first
          | exact ⟨_, rfl, _, rfl, ⟨fun e => absurd e h11, fun h => absurd h.1 h11⟩, hf2⟩
          | exact ⟨_, rfl, _, rfl, ⟨fun e => absurd e (by decide), fun h => absurd (h.2.1 p.2 (List.mem_of_getElem? (nds_get hp))) h23⟩, hF3.trans hf4⟩
          | exact ⟨_, rfl, _, rfl, ⟨fun e => absurd e (by decide), fun h => absurd h54 (lnkU_at h.2.2 hkl hq hp h47).1⟩, hF4.draws _⟩
          | exact ⟨_, rfl, _, rfl, ⟨fun e => absurd e (by decide), fun h => absurd h61 (lnkU_at h.2.2 hkl hq hp h47).2.1⟩, hF4.draws _⟩
          | exact ⟨_, rfl, _, rfl, ⟨fun e => absurd e (by decide), fun h => absurd (lnkU_at h.2.2 hkl hq hp h47).2.2 h72⟩, hF5⟩
          | exact ⟨_, rfl, _, rfl, ⟨fun _ => ⟨hz, hmy, hlk⟩, fun _ => rfl⟩, hF3⟩
    ·
      have hie : i = ps.length := by omega
      subst hie
      rw [List.take_of_length_le (by simp)] at hmy
      refine Sl.nil ?_
      refine At.weak [(0, _), (4, _), (16, _)] ⟨rfl, rfl, rfl, trivial⟩ ?_
      refine At.go ?_
      refine Sc.cond_f rfl ?_
      refine Sc.exit ?_
      refine At.then_exit ?_
      refine At.then_exit ?_
      refine At.block_hit ?_
      refine At.go ?_
      refine Sc.seq ?_
      refine Sc.seq ?_
      refine Sc.region ?_
      refine Sl.calm (Cm.assign rfl) rfl ?_
      refine Sl.nil ?_
      refine At.go ?_
      refine Sc.block ?_
      refine Sc.loop (β := Nat) (fun i => [(0, .slice lo ps.length lc), (6, .int .i64 i)]) (fun i w => i ≤ ps.length ∧ ((nds ps).take i).Pairwise lnkU ∧ Foot nob W w) (fun i => ps.length - i) 0 ⟨rfl, rfl, trivial⟩ ⟨Nat.zero_le _, by simp, hF3⟩ ?_
      rintro i w3 ⟨hi, hlk, hF3⟩
      refine Sc.seq ?_
      refine Sc.seq ?_
      refine Sc.region ?_
      refine Sl.calm (Cm.move rfl) rfl ?_
      refine Sl.calm (Cm.move rfl) rfl ?_
      refine Sl.calm (Cm.len sl25 rfl) rfl ?_
      refine Sl.fork (Cm.lss rfl rfl) rfl (fun h29 => ?_) (fun h29 => ?_)
      ·
        have hil : i < ps.length := by omega
        obtain ⟨p, hp⟩ : ∃ p, ps[i]? = some p := ⟨_, List.getElem?_eq_getElem hil⟩
        have hpm := List.mem_of_getElem? hp
        refine Sl.nil ?_
        refine At.weak [(0, _), (6, _), (29, _)] ⟨rfl, rfl, rfl, trivial⟩ ?_
        refine At.go ?_
        refine Sc.cond_t rfl ?_
        refine Sc.skip ?_
        refine At.go ?_
        refine Sc.seq ?_
        refine Sc.block ?_
        refine Sc.seq ?_
        refine Sc.region ?_
        refine Sl.calm (Cm.assign rfl) rfl ?_
        refine Sl.nil ?_
        refine At.go ?_
        refine Sc.block ?_
        refine Sc.loop (β := Nat) (fun k => [(0, .slice lo ps.length lc), (6, .int .i64 i), (7, .int .i64 k)]) (fun k w => k ≤ i ∧ (∀ n ∈ (nds ps).take k, lnkU n p.2) ∧ Foot nob W w) (fun k => i - k) 0 ⟨rfl, rfl, rfl, trivial⟩ ⟨Nat.zero_le _, by simp, hF3⟩ ?_
        rintro k w4 ⟨hk, hbl, hF4⟩
        refine Sc.seq ?_
        refine Sc.seq ?_
        refine Sc.region ?_
        refine Sl.calm (Cm.move rfl) rfl ?_
        refine Sl.calm (Cm.move rfl) rfl ?_
        refine Sl.fork (Cm.lss rfl rfl) rfl (fun h34 => ?_) (fun h34 => ?_)
        ·
          have hkl : k < i := by omega
          obtain ⟨q, hq⟩ : ∃ q, ps[k]? = some q := ⟨_, List.getElem?_eq_getElem (by omega)⟩
          have hqm := List.mem_of_getElem? hq
          have hv4 := hv.grow hF4
          refine Sl.nil ?_
          refine At.weak [(0, _), (6, _), (7, _), (34, _)] ⟨rfl, rfl, rfl, rfl, trivial⟩ ?_
          refine At.go ?_
          refine Sc.cond_t rfl ?_
          refine Sc.skip ?_
          refine At.go ?_
          refine Sc.seq ?_
          refine Sc.block ?_
          refine Sc.seq ?_
          refine Sc.draw 39 (fun H => VwM 10 encN H lo lc ps) [35] [0, 1, 2, 3, 4, 5, 6, 7, 8, 9, 10, 11, 12, 13, 14, 15, 16, 17, 18, 19, 20, 21, 22, 23, 24, 25, 26, 27, 28, 29, 30, 31, 32, 33, 34, 35, 36, 37, 38] mixed (by kernel_rfl) (hv4.1) ?_
          refine Sx.calm rfl rfl (Cm.move rfl) rfl ?_
          refine Sx.calm rfl rfl (Cm.move rfl) rfl ?_
          refine Sx.calm rfl rfl (Cm.indexAddr sl25 rfl rfl hv4.1.non (by omega)) rfl ?_
          refine Sx.calm rfl rfl (Cm.field fld35_1 rfl) rfl ?_
          refine Sx.calm rfl rfl (Cm.load sca3 rfl (fun H hH => hH.rowZ i rfl hp 1 _ rfl)) rfl ?_
          refine Sx.calm rfl rfl (Cm.move rfl) rfl ?_
          refine Sx.calm rfl rfl (Cm.move rfl) rfl ?_
          refine Sx.calm rfl rfl (Cm.indexAddr sl25 rfl rfl hv4.1.non (by omega)) rfl ?_
          refine Sx.calm rfl rfl (Cm.field fld35_1 rfl) rfl ?_
          refine Sx.calm rfl rfl (Cm.load sca3 rfl (fun H hH => hH.rowZ k rfl hq 1 _ rfl)) rfl ?_
          refine Sx.fork rfl rfl (Cm.eql rfl rfl) rfl (fun h47 => ?_) (fun h47 => ?_)
          ·
            refine Sx.calm rfl rfl (Cm.move rfl) rfl ?_
            refine Sx.want rfl rfl rfl rfl (Cm.move rfl) rfl ?_
            refine Sx.want rfl rfl rfl rfl (Cm.move rfl) rfl ?_
            refine Sx.want rfl rfl rfl rfl (Cm.indexAddr sl25 rfl rfl hv4.1.non (by omega)) rfl ?_
            refine Sx.want rfl rfl rfl rfl (Cm.field fld35_2 rfl) rfl ?_
            refine Sx.want rfl rfl rfl rfl (Cm.load sca3 rfl (fun H hH => hH.rowZ i rfl hp 2 _ rfl)) rfl ?_
            refine Sx.forkWant rfl rfl rfl rfl (Cm.eql rfl rfl) rfl (fun h54 => ?_) (fun h54 => ?_)
            ·
              refine Sx.want rfl rfl rfl rfl (Cm.move rfl) rfl ?_
              refine Sx.skip rfl rfl rfl rfl rfl rfl ?_
              refine Sx.skip rfl rfl rfl rfl rfl rfl ?_
              refine Sx.skip rfl rfl rfl rfl rfl rfl ?_
              refine Sx.skip rfl rfl rfl rfl rfl rfl ?_
              refine Sx.skip rfl rfl rfl rfl rfl rfl ?_
              refine Sx.skip rfl rfl rfl rfl rfl rfl ?_
              refine Sx.want rfl rfl rfl rfl (Cm.pick_t rfl rfl) rfl ?_
              refine Sx.want rfl rfl rfl rfl (Cm.move rfl) rfl ?_
              refine Sx.skip rfl rfl rfl rfl rfl rfl ?_
              refine Sx.skip rfl rfl rfl rfl rfl rfl ?_
              refine Sx.skip rfl rfl rfl rfl rfl rfl ?_
              refine Sx.skip rfl rfl rfl rfl rfl rfl ?_
              refine Sx.skip rfl rfl rfl rfl rfl rfl ?_
              refine Sx.skip rfl rfl rfl rfl rfl rfl ?_
              refine Sx.skip rfl rfl rfl rfl rfl rfl ?_
              refine Sx.skip rfl rfl rfl rfl rfl rfl ?_
              refine Sx.eff rfl rfl (Sl.skip rfl rfl rfl rfl ?_)
              refine Sx.on (by exact hv4.1) ?_
              refine Sx.skip rfl rfl rfl rfl rfl rfl ?_
              refine Sx.want rfl rfl rfl rfl (Cm.pick_t rfl rfl) rfl ?_
              refine Sx.calm rfl rfl (Cm.pick_t rfl rfl) rfl ?_
              refine Sx.nil ?_
              refine At.weak [(0, _), (6, _), (7, _), (34, _), (75, _)] ⟨rfl, rfl, rfl, rfl, rfl, trivial⟩ ?_
              refine At.go ?_
              refine Sc.cond_t rfl ?_
              refine Sc.seq ?_
              refine Sc.region ?_
              refine Sl.calm (Cm.assign rfl) rfl ?_
              refine Sl.nil ?_
              refine At.go ?_
              refine Sc.ret ?_
              refine At.block_ret ?_
              refine At.then_ret ?_
              refine At.then_ret ?_
              refine At.block_ret ?_
              refine At.block_ret ?_
              refine At.then_ret ?_
              refine At.then_ret ?_
              refine At.block_ret ?_
              refine At.then_ret ?_
              refine At.ret1 rfl rfl ?_
              first
                | exact ⟨_, rfl, _, rfl, ⟨fun e => absurd e h11, fun h => absurd h.1 h11⟩, hf2⟩
                | exact ⟨_, rfl, _, rfl, ⟨fun e => absurd e (by decide), fun h => absurd (h.2.1 p.2 (List.mem_of_getElem? (nds_get hp))) h23⟩, hF3.trans hf4⟩
                | exact ⟨_, rfl, _, rfl, ⟨fun e => absurd e (by decide), fun h => absurd h54 (lnkU_at h.2.2 hkl hq hp h47).1⟩, hF4.draws _⟩
                | exact ⟨_, rfl, _, rfl, ⟨fun e => absurd e (by decide), fun h => absurd h61 (lnkU_at h.2.2 hkl hq hp h47).2.1⟩, hF4.draws _⟩
                | exact ⟨_, rfl, _, rfl, ⟨fun e => absurd e (by decide), fun h => absurd (lnkU_at h.2.2 hkl hq hp h47).2.2 h72⟩, hF5⟩
                | exact ⟨_, rfl, _, rfl, ⟨fun _ => ⟨hz, hmy, hlk⟩, fun _ => rfl⟩, hF3⟩
            ·
              refine Sx.want rfl rfl rfl rfl (Cm.move rfl) rfl ?_
              refine Sx.want rfl rfl rfl rfl (Cm.move rfl) rfl ?_
              refine Sx.want rfl rfl rfl rfl (Cm.move rfl) rfl ?_
              refine Sx.want rfl rfl rfl rfl (Cm.indexAddr sl25 rfl rfl hv4.1.non (by omega)) rfl ?_
              refine Sx.want rfl rfl rfl rfl (Cm.field fld35_2 rfl) rfl ?_
              refine Sx.want rfl rfl rfl rfl (Cm.load sca3 rfl (fun H hH => hH.rowZ i rfl hp 2 _ rfl)) rfl ?_
              refine Sx.forkWant rfl rfl rfl rfl (Cm.eql rfl rfl) rfl (fun h61 => ?_) (fun h61 => ?_)
              ·
                refine Sx.want rfl rfl rfl rfl (Cm.pick_f rfl rfl) rfl ?_
                refine Sx.want rfl rfl rfl rfl (Cm.move rfl) rfl ?_
                refine Sx.skip rfl rfl rfl rfl rfl rfl ?_
                refine Sx.skip rfl rfl rfl rfl rfl rfl ?_
                refine Sx.skip rfl rfl rfl rfl rfl rfl ?_
                refine Sx.skip rfl rfl rfl rfl rfl rfl ?_
                refine Sx.skip rfl rfl rfl rfl rfl rfl ?_
                refine Sx.skip rfl rfl rfl rfl rfl rfl ?_
                refine Sx.skip rfl rfl rfl rfl rfl rfl ?_
                refine Sx.skip rfl rfl rfl rfl rfl rfl ?_
                refine Sx.eff rfl rfl (Sl.skip rfl rfl rfl rfl ?_)
                refine Sx.on (by exact hv4.1) ?_
                refine Sx.skip rfl rfl rfl rfl rfl rfl ?_
                refine Sx.want rfl rfl rfl rfl (Cm.pick_t rfl rfl) rfl ?_
                refine Sx.calm rfl rfl (Cm.pick_t rfl rfl) rfl ?_
                refine Sx.nil ?_
                refine At.weak [(0, _), (6, _), (7, _), (34, _), (75, _)] ⟨rfl, rfl, rfl, rfl, rfl, trivial⟩ ?_
                refine At.go ?_
                refine Sc.cond_t rfl ?_
                refine Sc.seq ?_
                refine Sc.region ?_
                refine Sl.calm (Cm.assign rfl) rfl ?_
                refine Sl.nil ?_
                refine At.go ?_
                refine Sc.ret ?_
                refine At.block_ret ?_
                refine At.then_ret ?_
                refine At.then_ret ?_
                refine At.block_ret ?_
                refine At.block_ret ?_
                refine At.then_ret ?_
                refine At.then_ret ?_
                refine At.block_ret ?_
                refine At.then_ret ?_
                refine At.ret1 rfl rfl ?_
                first
                  | exact ⟨_, rfl, _, rfl, ⟨fun e => absurd e h11, fun h => absurd h.1 h11⟩, hf2⟩
                  | exact ⟨_, rfl, _, rfl, ⟨fun e => absurd e (by decide), fun h => absurd (h.2.1 p.2 (List.mem_of_getElem? (nds_get hp))) h23⟩, hF3.trans hf4⟩
                  | exact ⟨_, rfl, _, rfl, ⟨fun e => absurd e (by decide), fun h => absurd h54 (lnkU_at h.2.2 hkl hq hp h47).1⟩, hF4.draws _⟩
                  | exact ⟨_, rfl, _, rfl, ⟨fun e => absurd e (by decide), fun h => absurd h61 (lnkU_at h.2.2 hkl hq hp h47).2.1⟩, hF4.draws _⟩
                  | exact ⟨_, rfl, _, rfl, ⟨fun e => absurd e (by decide), fun h => absurd (lnkU_at h.2.2 hkl hq hp h47).2.2 h72⟩, hF5⟩
                  | exact ⟨_, rfl, _, rfl, ⟨fun _ => ⟨hz, hmy, hlk⟩, fun _ => rfl⟩, hF3⟩
              ·
                refine Sx.want rfl rfl rfl rfl (Cm.pick_f rfl rfl) rfl ?_
                refine Sx.want rfl rfl rfl rfl (Cm.move rfl) rfl ?_
                refine Sx.want rfl rfl rfl rfl (Cm.move rfl) rfl ?_
                refine Sx.want rfl rfl rfl rfl (Cm.move rfl) rfl ?_
                refine Sx.want rfl rfl rfl rfl (Cm.indexAddr sl25 rfl rfl hv4.1.non (by omega)) rfl ?_
                refine Sx.want rfl rfl rfl rfl (Cm.loadM (cs := encN p) agg35 rfl (fun H hH j v hj => hH.rowZ i rfl hp j v hj)) rfl ?_
                refine Sx.want rfl rfl rfl rfl (Cm.move rfl) rfl ?_
                refine Sx.want rfl rfl rfl rfl (Cm.move rfl) rfl ?_
                refine Sx.want rfl rfl rfl rfl (Cm.indexAddr sl25 rfl rfl hv4.1.non (by omega)) rfl ?_
                refine Sx.want rfl rfl rfl rfl (Cm.loadM (cs := encN q) agg35 rfl (fun H hH j v hj => hH.rowZ k rfl hq j v hj)) rfl ?_
                refine Sx.eff rfl rfl (Sl.callWant rfl rfl fn19 rfl (ralike_ok p q _ (hv4.2 p hpm) (hv4.2 q hqm)) rfl ?_)
                rintro _ w5 ⟨rfl, hf5⟩
                have hF5 := (hF4.draws 1).trans hf5
                refine Sx.on (by exact (hv.grow hF5).1) ?_
                by_cases h72 : Alk p.2 q.2
                ·
                  rw [decide_eq_true h72]
                  refine Sx.want rfl rfl rfl rfl (Cm.not rfl) rfl ?_
                  refine Sx.want rfl rfl rfl rfl (Cm.pick_f rfl rfl) rfl ?_
                  refine Sx.calm rfl rfl (Cm.pick_t rfl rfl) rfl ?_
                  refine Sx.nil ?_
                  refine At.weak [(0, _), (6, _), (7, _), (34, _), (75, _)] ⟨rfl, rfl, rfl, rfl, rfl, trivial⟩ ?_
                  refine At.go ?_
                  refine Sc.cond_f rfl ?_
                  refine Sc.skip ?_
                  refine At.block_normal ?_
                  refine At.go ?_
                  refine Sc.region ?_
                  refine Sl.calm (Cm.move rfl) rfl ?_
                  refine Sl.calm (Cm.add64 rfl rfl (by omega)) rfl ?_
                  refine Sl.calm (Cm.assign rfl) rfl ?_
                  refine Sl.nil ?_
                  first
                    | exact At.again (k + 1) ⟨rfl, rfl, rfl, trivial⟩ ⟨by omega, allT (R := fun n => lnkU n p.2) hq hbl (fun e => absurd e h47), hF4.draws _⟩ (by show i - (k + 1) < i - k; omega)
                    | exact At.again (k + 1) ⟨rfl, rfl, rfl, trivial⟩ ⟨by omega, allT (R := fun n => lnkU n p.2) hq hbl (fun _ => ⟨h54, h61, h72⟩), hF5⟩ (by show i - (k + 1) < i - k; omega)
                ·
                  rw [decide_eq_false h72]
                  refine Sx.want rfl rfl rfl rfl (Cm.not rfl) rfl ?_
                  refine Sx.want rfl rfl rfl rfl (Cm.pick_f rfl rfl) rfl ?_
                  refine Sx.calm rfl rfl (Cm.pick_t rfl rfl) rfl ?_
                  refine Sx.nil ?_
                  refine At.weak [(0, _), (6, _), (7, _), (34, _), (75, _)] ⟨rfl, rfl, rfl, rfl, rfl, trivial⟩ ?_
                  refine At.go ?_
                  refine Sc.cond_t rfl ?_
                  refine Sc.seq ?_
                  refine Sc.region ?_
                  refine Sl.calm (Cm.assign rfl) rfl ?_
                  refine Sl.nil ?_
                  refine At.go ?_
                  refine Sc.ret ?_
                  refine At.block_ret ?_
                  refine At.then_ret ?_
                  refine At.then_ret ?_
                  refine At.block_ret ?_
                  refine At.block_ret ?_
                  refine At.then_ret ?_
                  refine At.then_ret ?_
                  refine At.block_ret ?_
                  refine At.then_ret ?_
                  refine At.ret1 rfl rfl ?_
                  first
                    | exact ⟨_, rfl, _, rfl, ⟨fun e => absurd e h11, fun h => absurd h.1 h11⟩, hf2⟩
                    | exact ⟨_, rfl, _, rfl, ⟨fun e => absurd e (by decide), fun h => absurd (h.2.1 p.2 (List.mem_of_getElem? (nds_get hp))) h23⟩, hF3.trans hf4⟩
                    | exact ⟨_, rfl, _, rfl, ⟨fun e => absurd e (by decide), fun h => absurd h54 (lnkU_at h.2.2 hkl hq hp h47).1⟩, hF4.draws _⟩
                    | exact ⟨_, rfl, _, rfl, ⟨fun e => absurd e (by decide), fun h => absurd h61 (lnkU_at h.2.2 hkl hq hp h47).2.1⟩, hF4.draws _⟩
                    | exact ⟨_, rfl, _, rfl, ⟨fun e => absurd e (by decide), fun h => absurd (lnkU_at h.2.2 hkl hq hp h47).2.2 h72⟩, hF5⟩
                    | exact ⟨_, rfl, _, rfl, ⟨fun _ => ⟨hz, hmy, hlk⟩, fun _ => rfl⟩, hF3⟩
          ·
            refine Sx.calm rfl rfl (Cm.move rfl) rfl ?_
            refine Sx.skip rfl rfl rfl rfl rfl rfl ?_
            refine Sx.skip rfl rfl rfl rfl rfl rfl ?_
            refine Sx.skip rfl rfl rfl rfl rfl rfl ?_
            refine Sx.skip rfl rfl rfl rfl rfl rfl ?_
            refine Sx.skip rfl rfl rfl rfl rfl rfl ?_
            refine Sx.skip rfl rfl rfl rfl rfl rfl ?_
            refine Sx.skip rfl rfl rfl rfl rfl rfl ?_
            refine Sx.skip rfl rfl rfl rfl rfl rfl ?_
            refine Sx.skip rfl rfl rfl rfl rfl rfl ?_
            refine Sx.skip rfl rfl rfl rfl rfl rfl ?_
            refine Sx.skip rfl rfl rfl rfl rfl rfl ?_
            refine Sx.skip rfl rfl rfl rfl rfl rfl ?_
            refine Sx.skip rfl rfl rfl rfl rfl rfl ?_
            refine Sx.skip rfl rfl rfl rfl rfl rfl ?_
            refine Sx.skip rfl rfl rfl rfl rfl rfl ?_
            refine Sx.skip rfl rfl rfl rfl rfl rfl ?_
            refine Sx.skip rfl rfl rfl rfl rfl rfl ?_
            refine Sx.skip rfl rfl rfl rfl rfl rfl ?_
            refine Sx.skip rfl rfl rfl rfl rfl rfl ?_
            refine Sx.skip rfl rfl rfl rfl rfl rfl ?_
            refine Sx.skip rfl rfl rfl rfl rfl rfl ?_
            refine Sx.skip rfl rfl rfl rfl rfl rfl ?_
            refine Sx.skip rfl rfl rfl rfl rfl rfl ?_
            refine Sx.eff rfl rfl (Sl.skip rfl rfl rfl rfl ?_)
            refine Sx.on (by exact hv4.1) ?_
            refine Sx.skip rfl rfl rfl rfl rfl rfl ?_
            refine Sx.skip rfl rfl rfl rfl rfl rfl ?_
            refine Sx.calm rfl rfl (Cm.pick_f rfl rfl) rfl ?_
            refine Sx.nil ?_
            refine At.weak [(0, _), (6, _), (7, _), (34, _), (75, _)] ⟨rfl, rfl, rfl, rfl, rfl, trivial⟩ ?_
            refine At.go ?_
            refine Sc.cond_f rfl ?_
            refine Sc.skip ?_
            refine At.block_normal ?_
            refine At.go ?_
            refine Sc.region ?_
            refine Sl.calm (Cm.move rfl) rfl ?_
            refine Sl.calm (Cm.add64 rfl rfl (by omega)) rfl ?_
            refine Sl.calm (Cm.assign rfl) rfl ?_
            refine Sl.nil ?_
            first
              | exact At.again (k + 1) ⟨rfl, rfl, rfl, trivial⟩ ⟨by omega, allT (R := fun n => lnkU n p.2) hq hbl (fun e => absurd e h47), hF4.draws _⟩ (by show i - (k + 1) < i - k; omega)
              | exact At.again (k + 1) ⟨rfl, rfl, rfl, trivial⟩ ⟨by omega, allT (R := fun n => lnkU n p.2) hq hbl (fun _ => ⟨h54, h61, h72⟩), hF5⟩ (by show i - (k + 1) < i - k; omega)
        ·
          rw [show k = i by omega] at hbl
          refine Sl.nil ?_
          refine At.weak [(0, _), (6, _), (7, _), (34, _)] ⟨rfl, rfl, rfl, rfl, trivial⟩ ?_
          refine At.go ?_
          refine Sc.cond_f rfl ?_
          refine Sc.exit ?_
          refine At.then_exit ?_
          refine At.then_exit ?_
          refine At.block_hit ?_
          refine At.block_normal ?_
          refine At.go ?_
          refine Sc.region ?_
          refine Sl.calm (Cm.move rfl) rfl ?_
          refine Sl.calm (Cm.add64 rfl rfl (by omega)) rfl ?_
          refine Sl.calm (Cm.assign rfl) rfl ?_
          refine Sl.nil ?_
          refine At.again (i + 1) ⟨rfl, rfl, trivial⟩ ⟨by omega, ?_, hF4⟩ (by show ps.length - (i + 1) < ps.length - i; omega)
          rw [tkN hp]
          exact List.pairwise_append.2 ⟨hlk, by simp, fun b hb a ha => by rw [List.mem_singleton] at ha; subst ha; exact hbl b hb⟩
      ·
        have hie : i = ps.length := by omega
        subst hie
        rw [List.take_of_length_le (by simp)] at hlk
        refine Sl.nil ?_
        refine At.weak [(0, _), (6, _), (29, _)] ⟨rfl, rfl, rfl, trivial⟩ ?_
        refine At.go ?_
        refine Sc.cond_f rfl ?_
        refine Sc.exit ?_
        refine At.then_exit ?_
        refine At.then_exit ?_
        refine At.block_hit ?_
        refine At.go ?_
        refine Sc.seq ?_
        refine Sc.region ?_
        refine Sl.calm (Cm.assign rfl) rfl ?_
        refine Sl.nil ?_
        refine At.go ?_
        refine Sc.ret ?_
        refine At.ret1 rfl rfl ?_
        first
          | exact ⟨_, rfl, _, rfl, ⟨fun e => absurd e h11, fun h => absurd h.1 h11⟩, hf2⟩
          | exact ⟨_, rfl, _, rfl, ⟨fun e => absurd e (by decide), fun h => absurd (h.2.1 p.2 (List.mem_of_getElem? (nds_get hp))) h23⟩, hF3.trans hf4⟩
          | exact ⟨_, rfl, _, rfl, ⟨fun e => absurd e (by decide), fun h => absurd h54 (lnkU_at h.2.2 hkl hq hp h47).1⟩, hF4.draws _⟩
          | exact ⟨_, rfl, _, rfl, ⟨fun e => absurd e (by decide), fun h => absurd h61 (lnkU_at h.2.2 hkl hq hp h47).2.1⟩, hF4.draws _⟩
          | exact ⟨_, rfl, _, rfl, ⟨fun e => absurd e (by decide), fun h => absurd (lnkU_at h.2.2 hkl hq hp h47).2.2 h72⟩, hF5⟩
          | exact ⟨_, rfl, _, rfl, ⟨fun _ => ⟨hz, hmy, hlk⟩, fun _ => rfl⟩, hF3⟩
end Go.Proofs.Ytpamandneifemaa
