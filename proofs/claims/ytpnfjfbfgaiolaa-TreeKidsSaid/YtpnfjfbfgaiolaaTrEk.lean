/- tree: the reference's Alike and Check. No condition beyond the bounds that each states. -/
import Derived.Test.YtpnfjfbfgaiolaaTrDk
namespace Go.Proofs.Ytpnfjfbfgaiolaa
open Go Go.RowKit
set_option linter.unusedVariables false

theorem opt_all {α : Type} {a b : List α} {k : Nat} (hl : a.length = b.length) (hk : a.length ≤ k) (h : ∀ j : Nat, j < k → a[j]? = b[j]?) : a = b := by
  apply List.ext_getElem?
  intro j
  by_cases hj : j < k
  · exact h j hj
  · rw [List.getElem?_eq_none (by omega), List.getElem?_eq_none (by omega)]
theorem XsV.at {D : Nat → Prop} {H : Array Obj} {h : Hd} {X : List Xa} {ys : List (List UInt8 × Hd)} (hl : ys.length = X.length) (hx : ∀ (i : Nat) (x : List UInt8 × Hd) (y : Xa), ys[i]? = some x → X[i]? = some y → x.1 = y.1 ∧ ByV D H x.2 y.2) {k : Nat} (hk : k < X.length) :
    ∃ (a : Xa) (b : Hd), X[k]? = some a ∧ ys[k]? = some (a.1, b) ∧ ByV D H b a.2 := by
  have h1 := List.getElem?_eq_getElem hk
  have h2 : ys[k]? = some ys[k] := List.getElem?_eq_getElem (by omega)
  obtain ⟨e, hb⟩ := hx k _ _ h2 h1
  refine ⟨X[k], (ys[k]).2, h1, ?_, hb⟩
  rw [h2, ← e]
variable {D : Nat → Prop}
set_option maxHeartbeats 4000000 in
theorem ralike_ok (p q : NdH × Nd) (W : World) (hp : NdV D W.heap p) (hq : NdV D W.heap q) :
    Calls Try.prog 15 [.agg (encN p).toArray, .agg (encN q).toArray].toArray W (Ret fun v w' => v = .bool (decide (Alk p.2 q.2)) ∧ Foot nob W w') := by
  have no : ∀ w', ¬ Alk p.2 q.2 → Foot nob W w' → Ret (fun v w' => v = .bool (decide (Alk p.2 q.2)) ∧ Foot nob W w') (.returned (.bool false)) w' := fun w' h f => ⟨_, rfl, by rw [decide_eq_false h], f⟩
  refine calls_of_sc 87 [(0, _), (1, _)] Try.func15 rfl rfl rfl (enter_slots ⟨rfl, rfl, trivial⟩) ?_
  refine Sc.seq ?_
  refine Sc.region ?_
  refine Sl.box rfl rfl ?_
  intro w1 hg1 hs1 hf1
  obtain ⟨g, hg⟩ : ∃ g, g = W.heap.size := ⟨_, rfl⟩
  rw [← hg] at hg1 hs1 ⊢
  replace hg1 : w1.heap[g]? = some (.cells (encN p).toArray 34 (0, 0)) := hg1
  refine Sl.box rfl rfl ?_
  intro w2 hg2 hs2 hf2
  obtain ⟨r, hr⟩ : ∃ r, r = w1.heap.size := ⟨_, rfl⟩
  rw [← hr] at hg2 hs2 ⊢
  have hgq : w2.heap[r]? = some (.cells (encN q).toArray 34 (0, 0)) := hg2
  have hgp := hf2.obj hg1 id
  have hF2 := hf1.trans hf2
  have hp2 := hp.grow hF2
  have hq2 := hq.grow hF2
  refine Sl.calm (Cm.assign rfl) rfl ?_
  refine Sl.nil ?_
  refine At.go ?_
  refine Sc.seq ?_
  refine Sc.seq ?_
  refine Sc.region ?_
  refine Sl.calm (Cm.field fld34_2 rfl) rfl ?_
  refine Sl.calm (Cm.ld sca3 rfl (by first | exact cellF hgp rfl | exact cellF hgq rfl)) rfl ?_
  refine Sl.calm (Cm.field fld34_2 rfl) rfl ?_
  refine Sl.calm (Cm.ld sca3 rfl (by first | exact cellF hgp rfl | exact cellF hgq rfl)) rfl ?_
  refine Sl.fork (Cm.neq rfl rfl) rfl (fun h10 => ?_) (fun h10 => ?_)
  ·
    refine Sl.calm (Cm.move rfl) rfl ?_
    refine Sl.skip rfl rfl rfl rfl ?_
    refine Sl.skip rfl rfl rfl rfl ?_
    refine Sl.skip rfl rfl rfl rfl ?_
    refine Sl.skip rfl rfl rfl rfl ?_
    refine Sl.skip rfl rfl rfl rfl ?_
    refine Sl.calm (Cm.pick_t rfl rfl) rfl ?_
    refine Sl.calm (Cm.move rfl) rfl ?_
    refine Sl.skip rfl rfl rfl rfl ?_
    refine Sl.skip rfl rfl rfl rfl ?_
    refine Sl.skip rfl rfl rfl rfl ?_
    refine Sl.skip rfl rfl rfl rfl ?_
    refine Sl.skip rfl rfl rfl rfl ?_
    refine Sl.skip rfl rfl rfl rfl ?_
    refine Sl.skip rfl rfl rfl rfl ?_
    refine Sl.calm (Cm.pick_t rfl rfl) rfl ?_
    refine Sl.calm (Cm.move rfl) rfl ?_
    refine Sl.skip rfl rfl rfl rfl ?_
    refine Sl.skip rfl rfl rfl rfl ?_
    refine Sl.skip rfl rfl rfl rfl ?_
    refine Sl.skip rfl rfl rfl rfl ?_
    refine Sl.skip rfl rfl rfl rfl ?_
    refine Sl.calm (Cm.pick_t rfl rfl) rfl ?_
    refine Sl.calm (Cm.move rfl) rfl ?_
    refine Sl.skip rfl rfl rfl rfl ?_
    refine Sl.skip rfl rfl rfl rfl ?_
    refine Sl.skip rfl rfl rfl rfl ?_
    refine Sl.skip rfl rfl rfl rfl ?_
    refine Sl.skip rfl rfl rfl rfl ?_
    refine Sl.calm (Cm.pick_t rfl rfl) rfl ?_
    refine Sl.calm (Cm.move rfl) rfl ?_
    refine Sl.skip rfl rfl rfl rfl ?_
    refine Sl.skip rfl rfl rfl rfl ?_
    refine Sl.skip rfl rfl rfl rfl ?_
    refine Sl.skip rfl rfl rfl rfl ?_
    refine Sl.skip rfl rfl rfl rfl ?_
    refine Sl.skip rfl rfl rfl rfl ?_
    refine Sl.skip rfl rfl rfl rfl ?_
    refine Sl.calm (Cm.pick_t rfl rfl) rfl ?_
    refine Sl.nil ?_
    refine At.weak [(0, _), (1, _), (2, _), (3, _), (4, _), (49, _)] ⟨rfl, rfl, rfl, rfl, rfl, rfl, trivial⟩ ?_
    refine At.go ?_
    refine Sc.cond_t rfl ?_
    refine Sc.seq ?_
    refine Sc.region ?_
    refine Sl.calm (Cm.assign rfl) rfl ?_
    refine Sl.nil ?_
    refine At.go ?_
    refine Sc.ret ?_
    refine At.then_ret ?_
    refine At.ret1 rfl rfl ?_
    first
      | exact no _ (fun A => h10 A.1) hF2
      | exact no _ (fun A => h16 A.2.1) hF2
      | exact no _ (fun A => h25 A.2.2.2.2.1) hF2
      | exact no _ (fun A => h32 A.2.2.1) hF2
      | exact no _ (fun A => (bne_iff_ne.1 h39) A.2.2.2.1) hF2
      | exact no _ (fun A => h48 (by rw [A.2.2.2.2.2])) hF2
      | exact no _ (fun A => h69 (by rw [A.2.2.2.2.2, hbk] at hak; cases hak; rfl)) ((hF2.trans hF3).draws 1)
      | exact no _ (fun A => h85 (by rw [A.2.2.2.2.2, hbk] at hak; cases hak; rfl)) ((hF2.trans hF3).draws 1)
      | exact ⟨_, rfl, by rw [decide_eq_true (show Alk p.2 q.2 from ⟨Classical.not_not.1 h10, Classical.not_not.1 h16, Classical.not_not.1 h32, by simpa using h39, Classical.not_not.1 h25, opt_all hxe (by omega) hsame⟩)], hF2.trans hF3⟩
  ·
    refine Sl.calm (Cm.move rfl) rfl ?_
    refine Sl.want rfl rfl (Cm.field fld34_3 rfl) rfl ?_
    refine Sl.want rfl rfl (Cm.ldM (cs := encA p.2) agg30 rfl (cellsF hgp 3 rfl)) rfl ?_
    refine Sl.want rfl rfl (Cm.field fld34_3 rfl) rfl ?_
    refine Sl.want rfl rfl (Cm.ldM (cs := encA q.2) agg30 rfl (cellsF hgq 3 rfl)) rfl ?_
    refine Sl.forkWant rfl rfl (Cm.neqA3 stA stAi stAh stAg (a := p.2.md) (b := p.2.ud) (c := p.2.gd) (a' := q.2.md) (b' := q.2.ud) (c' := q.2.gd) rfl rfl) rfl (fun h16 => ?_) (fun h16 => ?_)
    ·
      refine Sl.calm (Cm.pick_f rfl rfl) rfl ?_
      refine Sl.calm (Cm.move rfl) rfl ?_
      refine Sl.skip rfl rfl rfl rfl ?_
      refine Sl.skip rfl rfl rfl rfl ?_
      refine Sl.skip rfl rfl rfl rfl ?_
      refine Sl.skip rfl rfl rfl rfl ?_
      refine Sl.skip rfl rfl rfl rfl ?_
      refine Sl.skip rfl rfl rfl rfl ?_
      refine Sl.skip rfl rfl rfl rfl ?_
      refine Sl.calm (Cm.pick_t rfl rfl) rfl ?_
      refine Sl.calm (Cm.move rfl) rfl ?_
      refine Sl.skip rfl rfl rfl rfl ?_
      refine Sl.skip rfl rfl rfl rfl ?_
      refine Sl.skip rfl rfl rfl rfl ?_
      refine Sl.skip rfl rfl rfl rfl ?_
      refine Sl.skip rfl rfl rfl rfl ?_
      refine Sl.calm (Cm.pick_t rfl rfl) rfl ?_
      refine Sl.calm (Cm.move rfl) rfl ?_
      refine Sl.skip rfl rfl rfl rfl ?_
      refine Sl.skip rfl rfl rfl rfl ?_
      refine Sl.skip rfl rfl rfl rfl ?_
      refine Sl.skip rfl rfl rfl rfl ?_
      refine Sl.skip rfl rfl rfl rfl ?_
      refine Sl.calm (Cm.pick_t rfl rfl) rfl ?_
      refine Sl.calm (Cm.move rfl) rfl ?_
      refine Sl.skip rfl rfl rfl rfl ?_
      refine Sl.skip rfl rfl rfl rfl ?_
      refine Sl.skip rfl rfl rfl rfl ?_
      refine Sl.skip rfl rfl rfl rfl ?_
      refine Sl.skip rfl rfl rfl rfl ?_
      refine Sl.skip rfl rfl rfl rfl ?_
      refine Sl.skip rfl rfl rfl rfl ?_
      refine Sl.calm (Cm.pick_t rfl rfl) rfl ?_
      refine Sl.nil ?_
      refine At.weak [(0, _), (1, _), (2, _), (3, _), (4, _), (49, _)] ⟨rfl, rfl, rfl, rfl, rfl, rfl, trivial⟩ ?_
      refine At.go ?_
      refine Sc.cond_t rfl ?_
      refine Sc.seq ?_
      refine Sc.region ?_
      refine Sl.calm (Cm.assign rfl) rfl ?_
      refine Sl.nil ?_
      refine At.go ?_
      refine Sc.ret ?_
      refine At.then_ret ?_
      refine At.ret1 rfl rfl ?_
      first
        | exact no _ (fun A => h10 A.1) hF2
        | exact no _ (fun A => h16 A.2.1) hF2
        | exact no _ (fun A => h25 A.2.2.2.2.1) hF2
        | exact no _ (fun A => h32 A.2.2.1) hF2
        | exact no _ (fun A => (bne_iff_ne.1 h39) A.2.2.2.1) hF2
        | exact no _ (fun A => h48 (by rw [A.2.2.2.2.2])) hF2
        | exact no _ (fun A => h69 (by rw [A.2.2.2.2.2, hbk] at hak; cases hak; rfl)) ((hF2.trans hF3).draws 1)
        | exact no _ (fun A => h85 (by rw [A.2.2.2.2.2, hbk] at hak; cases hak; rfl)) ((hF2.trans hF3).draws 1)
        | exact ⟨_, rfl, by rw [decide_eq_true (show Alk p.2 q.2 from ⟨Classical.not_not.1 h10, Classical.not_not.1 h16, Classical.not_not.1 h32, by simpa using h39, Classical.not_not.1 h25, opt_all hxe (by omega) hsame⟩)], hF2.trans hF3⟩
    ·
      refine Sl.calm (Cm.pick_f rfl rfl) rfl ?_
      refine Sl.calm (Cm.move rfl) rfl ?_
      refine Sl.want rfl rfl (Cm.field fld34_4 rfl) rfl ?_
      refine Sl.want rfl rfl (Cm.ofEq (u := .slice p.1.data.a p.2.data.length p.1.data.c) (Cm.ld sca31 rfl (cellF hgp rfl)) (by rw [← hp2.2.1.1]; rfl)) rfl ?_
      refine Sl.want rfl rfl (Cm.strIn sl31 ty5 ty9 rfl hp2.2.1.2.1) rfl ?_
      refine Sl.want rfl rfl (Cm.field fld34_4 rfl) rfl ?_
      refine Sl.want rfl rfl (Cm.ofEq (u := .slice q.1.data.a q.2.data.length q.1.data.c) (Cm.ld sca31 rfl (cellF hgq rfl)) (by rw [← hq2.2.1.1]; rfl)) rfl ?_
      refine Sl.want rfl rfl (Cm.strIn sl31 ty5 ty9 rfl hq2.2.1.2.1) rfl ?_
      refine Sl.forkWant rfl rfl (Cm.neqBs rfl rfl) rfl (fun h25 => ?_) (fun h25 => ?_)
      ·
        refine Sl.calm (Cm.pick_f rfl rfl) rfl ?_
        refine Sl.calm (Cm.move rfl) rfl ?_
        refine Sl.skip rfl rfl rfl rfl ?_
        refine Sl.skip rfl rfl rfl rfl ?_
        refine Sl.skip rfl rfl rfl rfl ?_
        refine Sl.skip rfl rfl rfl rfl ?_
        refine Sl.skip rfl rfl rfl rfl ?_
        refine Sl.calm (Cm.pick_t rfl rfl) rfl ?_
        refine Sl.calm (Cm.move rfl) rfl ?_
        refine Sl.skip rfl rfl rfl rfl ?_
        refine Sl.skip rfl rfl rfl rfl ?_
        refine Sl.skip rfl rfl rfl rfl ?_
        refine Sl.skip rfl rfl rfl rfl ?_
        refine Sl.skip rfl rfl rfl rfl ?_
        refine Sl.calm (Cm.pick_t rfl rfl) rfl ?_
        refine Sl.calm (Cm.move rfl) rfl ?_
        refine Sl.skip rfl rfl rfl rfl ?_
        refine Sl.skip rfl rfl rfl rfl ?_
        refine Sl.skip rfl rfl rfl rfl ?_
        refine Sl.skip rfl rfl rfl rfl ?_
        refine Sl.skip rfl rfl rfl rfl ?_
        refine Sl.skip rfl rfl rfl rfl ?_
        refine Sl.skip rfl rfl rfl rfl ?_
        refine Sl.calm (Cm.pick_t rfl rfl) rfl ?_
        refine Sl.nil ?_
        refine At.weak [(0, _), (1, _), (2, _), (3, _), (4, _), (49, _)] ⟨rfl, rfl, rfl, rfl, rfl, rfl, trivial⟩ ?_
        refine At.go ?_
        refine Sc.cond_t rfl ?_
        refine Sc.seq ?_
        refine Sc.region ?_
        refine Sl.calm (Cm.assign rfl) rfl ?_
        refine Sl.nil ?_
        refine At.go ?_
        refine Sc.ret ?_
        refine At.then_ret ?_
        refine At.ret1 rfl rfl ?_
        first
          | exact no _ (fun A => h10 A.1) hF2
          | exact no _ (fun A => h16 A.2.1) hF2
          | exact no _ (fun A => h25 A.2.2.2.2.1) hF2
          | exact no _ (fun A => h32 A.2.2.1) hF2
          | exact no _ (fun A => (bne_iff_ne.1 h39) A.2.2.2.1) hF2
          | exact no _ (fun A => h48 (by rw [A.2.2.2.2.2])) hF2
          | exact no _ (fun A => h69 (by rw [A.2.2.2.2.2, hbk] at hak; cases hak; rfl)) ((hF2.trans hF3).draws 1)
          | exact no _ (fun A => h85 (by rw [A.2.2.2.2.2, hbk] at hak; cases hak; rfl)) ((hF2.trans hF3).draws 1)
          | exact ⟨_, rfl, by rw [decide_eq_true (show Alk p.2 q.2 from ⟨Classical.not_not.1 h10, Classical.not_not.1 h16, Classical.not_not.1 h32, by simpa using h39, Classical.not_not.1 h25, opt_all hxe (by omega) hsame⟩)], hF2.trans hF3⟩
      ·
        refine Sl.calm (Cm.pick_f rfl rfl) rfl ?_
        refine Sl.calm (Cm.move rfl) rfl ?_
        refine Sl.want rfl rfl (Cm.field fld34_5 rfl) rfl ?_
        refine Sl.want rfl rfl (Cm.ld sca9 rfl (by first | exact cellF hgp rfl | exact cellF hgq rfl)) rfl ?_
        refine Sl.want rfl rfl (Cm.field fld34_5 rfl) rfl ?_
        refine Sl.want rfl rfl (Cm.ld sca9 rfl (by first | exact cellF hgp rfl | exact cellF hgq rfl)) rfl ?_
        refine Sl.forkWant rfl rfl (Cm.neqBs rfl rfl) rfl (fun h32 => ?_) (fun h32 => ?_)
        ·
          refine Sl.calm (Cm.pick_f rfl rfl) rfl ?_
          refine Sl.calm (Cm.move rfl) rfl ?_
          refine Sl.skip rfl rfl rfl rfl ?_
          refine Sl.skip rfl rfl rfl rfl ?_
          refine Sl.skip rfl rfl rfl rfl ?_
          refine Sl.skip rfl rfl rfl rfl ?_
          refine Sl.skip rfl rfl rfl rfl ?_
          refine Sl.calm (Cm.pick_t rfl rfl) rfl ?_
          refine Sl.calm (Cm.move rfl) rfl ?_
          refine Sl.skip rfl rfl rfl rfl ?_
          refine Sl.skip rfl rfl rfl rfl ?_
          refine Sl.skip rfl rfl rfl rfl ?_
          refine Sl.skip rfl rfl rfl rfl ?_
          refine Sl.skip rfl rfl rfl rfl ?_
          refine Sl.skip rfl rfl rfl rfl ?_
          refine Sl.skip rfl rfl rfl rfl ?_
          refine Sl.calm (Cm.pick_t rfl rfl) rfl ?_
          refine Sl.nil ?_
          refine At.weak [(0, _), (1, _), (2, _), (3, _), (4, _), (49, _)] ⟨rfl, rfl, rfl, rfl, rfl, rfl, trivial⟩ ?_
          refine At.go ?_
          refine Sc.cond_t rfl ?_
          refine Sc.seq ?_
          refine Sc.region ?_
          refine Sl.calm (Cm.assign rfl) rfl ?_
          refine Sl.nil ?_
          refine At.go ?_
          refine Sc.ret ?_
          refine At.then_ret ?_
          refine At.ret1 rfl rfl ?_
          first
            | exact no _ (fun A => h10 A.1) hF2
            | exact no _ (fun A => h16 A.2.1) hF2
            | exact no _ (fun A => h25 A.2.2.2.2.1) hF2
            | exact no _ (fun A => h32 A.2.2.1) hF2
            | exact no _ (fun A => (bne_iff_ne.1 h39) A.2.2.2.1) hF2
            | exact no _ (fun A => h48 (by rw [A.2.2.2.2.2])) hF2
            | exact no _ (fun A => h69 (by rw [A.2.2.2.2.2, hbk] at hak; cases hak; rfl)) ((hF2.trans hF3).draws 1)
            | exact no _ (fun A => h85 (by rw [A.2.2.2.2.2, hbk] at hak; cases hak; rfl)) ((hF2.trans hF3).draws 1)
            | exact ⟨_, rfl, by rw [decide_eq_true (show Alk p.2 q.2 from ⟨Classical.not_not.1 h10, Classical.not_not.1 h16, Classical.not_not.1 h32, by simpa using h39, Classical.not_not.1 h25, opt_all hxe (by omega) hsame⟩)], hF2.trans hF3⟩
        ·
          refine Sl.calm (Cm.pick_f rfl rfl) rfl ?_
          refine Sl.calm (Cm.move rfl) rfl ?_
          refine Sl.want rfl rfl (Cm.field fld34_7 rfl) rfl ?_
          refine Sl.want rfl rfl (Cm.ld sca4 rfl (by first | exact cellF hgp rfl | exact cellF hgq rfl)) rfl ?_
          refine Sl.want rfl rfl (Cm.field fld34_7 rfl) rfl ?_
          refine Sl.want rfl rfl (Cm.ld sca4 rfl (by first | exact cellF hgp rfl | exact cellF hgq rfl)) rfl ?_
          refine Sl.forkWant rfl rfl (Cm.ofBool (Cm.neqBool ty4 rfl rfl)) rfl (fun h39 => ?_) (fun h39 => ?_)
          ·
            refine Sl.calm (Cm.pick_f rfl rfl) rfl ?_
            refine Sl.calm (Cm.move rfl) rfl ?_
            refine Sl.skip rfl rfl rfl rfl ?_
            refine Sl.skip rfl rfl rfl rfl ?_
            refine Sl.skip rfl rfl rfl rfl ?_
            refine Sl.skip rfl rfl rfl rfl ?_
            refine Sl.skip rfl rfl rfl rfl ?_
            refine Sl.skip rfl rfl rfl rfl ?_
            refine Sl.skip rfl rfl rfl rfl ?_
            refine Sl.calm (Cm.pick_t rfl rfl) rfl ?_
            refine Sl.nil ?_
            refine At.weak [(0, _), (1, _), (2, _), (3, _), (4, _), (49, _)] ⟨rfl, rfl, rfl, rfl, rfl, rfl, trivial⟩ ?_
            refine At.go ?_
            refine Sc.cond_t rfl ?_
            refine Sc.seq ?_
            refine Sc.region ?_
            refine Sl.calm (Cm.assign rfl) rfl ?_
            refine Sl.nil ?_
            refine At.go ?_
            refine Sc.ret ?_
            refine At.then_ret ?_
            refine At.ret1 rfl rfl ?_
            first
              | exact no _ (fun A => h10 A.1) hF2
              | exact no _ (fun A => h16 A.2.1) hF2
              | exact no _ (fun A => h25 A.2.2.2.2.1) hF2
              | exact no _ (fun A => h32 A.2.2.1) hF2
              | exact no _ (fun A => (bne_iff_ne.1 h39) A.2.2.2.1) hF2
              | exact no _ (fun A => h48 (by rw [A.2.2.2.2.2])) hF2
              | exact no _ (fun A => h69 (by rw [A.2.2.2.2.2, hbk] at hak; cases hak; rfl)) ((hF2.trans hF3).draws 1)
              | exact no _ (fun A => h85 (by rw [A.2.2.2.2.2, hbk] at hak; cases hak; rfl)) ((hF2.trans hF3).draws 1)
              | exact ⟨_, rfl, by rw [decide_eq_true (show Alk p.2 q.2 from ⟨Classical.not_not.1 h10, Classical.not_not.1 h16, Classical.not_not.1 h32, by simpa using h39, Classical.not_not.1 h25, opt_all hxe (by omega) hsame⟩)], hF2.trans hF3⟩
          ·
            refine Sl.calm (Cm.pick_f rfl rfl) rfl ?_
            refine Sl.calm (Cm.move rfl) rfl ?_
            refine Sl.want rfl rfl (Cm.field fld34_6 rfl) rfl ?_
            refine Sl.want rfl rfl (Cm.ld sca32 rfl (by first | exact cellF hgp rfl | exact cellF hgq rfl)) rfl ?_
            refine Sl.want rfl rfl (Cm.len sl32 rfl) rfl ?_
            rw [hp2.2.2.1]
            refine Sl.want rfl rfl (Cm.field fld34_6 rfl) rfl ?_
            refine Sl.want rfl rfl (Cm.ld sca32 rfl (by first | exact cellF hgp rfl | exact cellF hgq rfl)) rfl ?_
            refine Sl.want rfl rfl (Cm.len sl32 rfl) rfl ?_
            rw [hq2.2.2.1]
            refine Sl.forkWant rfl rfl (Cm.neq rfl rfl) rfl (fun h48 => ?_) (fun h48 => ?_)
            ·
              refine Sl.calm (Cm.pick_f rfl rfl) rfl ?_
              refine Sl.nil ?_
              refine At.weak [(0, _), (1, _), (2, _), (3, _), (4, _), (49, _)] ⟨rfl, rfl, rfl, rfl, rfl, rfl, trivial⟩ ?_
              refine At.go ?_
              refine Sc.cond_t rfl ?_
              refine Sc.seq ?_
              refine Sc.region ?_
              refine Sl.calm (Cm.assign rfl) rfl ?_
              refine Sl.nil ?_
              refine At.go ?_
              refine Sc.ret ?_
              refine At.then_ret ?_
              refine At.ret1 rfl rfl ?_
              first
                | exact no _ (fun A => h10 A.1) hF2
                | exact no _ (fun A => h16 A.2.1) hF2
                | exact no _ (fun A => h25 A.2.2.2.2.1) hF2
                | exact no _ (fun A => h32 A.2.2.1) hF2
                | exact no _ (fun A => (bne_iff_ne.1 h39) A.2.2.2.1) hF2
                | exact no _ (fun A => h48 (by rw [A.2.2.2.2.2])) hF2
                | exact no _ (fun A => h69 (by rw [A.2.2.2.2.2, hbk] at hak; cases hak; rfl)) ((hF2.trans hF3).draws 1)
                | exact no _ (fun A => h85 (by rw [A.2.2.2.2.2, hbk] at hak; cases hak; rfl)) ((hF2.trans hF3).draws 1)
                | exact ⟨_, rfl, by rw [decide_eq_true (show Alk p.2 q.2 from ⟨Classical.not_not.1 h10, Classical.not_not.1 h16, Classical.not_not.1 h32, by simpa using h39, Classical.not_not.1 h25, opt_all hxe (by omega) hsame⟩)], hF2.trans hF3⟩
            ·
              refine Sl.calm (Cm.pick_f rfl rfl) rfl ?_
              refine Sl.nil ?_
              refine At.weak [(0, _), (1, _), (2, _), (3, _), (4, _), (49, _)] ⟨rfl, rfl, rfl, rfl, rfl, rfl, trivial⟩ ?_
              refine At.go ?_
              refine Sc.cond_f rfl ?_
              refine Sc.skip ?_
              refine At.go ?_
              refine Sc.seq ?_
              refine Sc.seq ?_
              refine Sc.region ?_
              refine Sl.calm (Cm.assign rfl) rfl ?_
              refine Sl.nil ?_
              refine At.go ?_
              refine Sc.block ?_
              have hxe : p.2.xs.length = q.2.xs.length := by omega
              obtain ⟨hxl, ys, hyv, hyl, hyd, hyx⟩ := hp2.2.2
              obtain ⟨hwl, zs, hzv, hzl, hzd, hzx⟩ := hq2.2.2
              have hx63 := hyv.len63
              refine Sc.loop (β := Nat) (fun k => [(2, .pointer (some ⟨g, 0, none⟩)), (3, .pointer (some ⟨r, 0, none⟩)), (5, .int .i64 k)]) (fun k w => k ≤ p.2.xs.length ∧ (∀ j : Nat, j < k → p.2.xs[j]? = q.2.xs[j]?) ∧ Foot nob w2 w) (fun k => p.2.xs.length - k) 0 ⟨rfl, rfl, rfl, trivial⟩ ⟨Nat.zero_le _, fun j hj => by omega, Foot.refl _ _⟩ ?_
              rintro k w3 ⟨hk, hsame, hF3⟩
              have hgp3 := hF3.obj hgp id
              have hgq3 := hF3.obj hgq id
              refine Sc.seq ?_
              refine Sc.seq ?_
              refine Sc.region ?_
              refine Sl.calm (Cm.move rfl) rfl ?_
              refine Sl.calm (Cm.field fld34_6 rfl) rfl ?_
              refine Sl.calm (Cm.ld sca32 rfl (by first | exact cellF hgp3 rfl | exact cellF hgq3 rfl)) rfl ?_
              refine Sl.calm (Cm.len sl32 rfl) rfl ?_
              rw [hp2.2.2.1]
              refine Sl.fork (Cm.lss rfl rfl) rfl (fun h54 => ?_) (fun h54 => ?_)
              ·
                have hkx : k < p.2.xs.length := by omega
                obtain ⟨a, ah, hak, hyk, hva⟩ := XsV.at (D := D) (H := w3.heap) (h := p.1.xs) hyl (fun i x y h1 h2 => ⟨(hyx i x y h1 h2).1, (hyx i x y h1 h2).2.keep hF3 (fun _ _ => id)⟩) hkx
                obtain ⟨b, bh, hbk, hzk, hvb⟩ := XsV.at (D := D) (H := w3.heap) (h := q.1.xs) hzl (fun i x y h1 h2 => ⟨(hzx i x y h1 h2).1, (hzx i x y h1 h2).2.keep hF3 (fun _ _ => id)⟩) (by omega : k < q.2.xs.length)
                have hyv3 := hyv.keep' hF3 (fun _ _ _ => id)
                have hzv3 := hzv.keep' hF3 (fun _ _ _ => id)
                refine Sl.nil ?_
                refine At.weak [(2, _), (3, _), (5, _), (54, _)] ⟨rfl, rfl, rfl, rfl, trivial⟩ ?_
                refine At.go ?_
                refine Sc.cond_t rfl ?_
                refine Sc.skip ?_
                refine At.go ?_
                refine Sc.seq ?_
                refine Sc.block ?_
                refine Sc.seq ?_
                refine Sc.quiet 30 [0, 1, 2, 3, 4, 5, 6, 7, 8, 9, 10, 11, 12, 13, 14, 15, 16, 17, 18, 19, 20, 21, 22, 23, 24, 25, 26, 27, 28, 29] mixed (by kernel_rfl) ?_
                refine Sx.calm rfl rfl (Cm.field fld34_6 rfl) rfl ?_
                refine Sx.calm rfl rfl (Cm.ld sca32 rfl (by first | exact cellF hgp3 rfl | exact cellF hgq3 rfl)) rfl ?_
                refine Sx.calm rfl rfl (Cm.move rfl) rfl ?_
                refine Sx.calm rfl rfl (Cm.indexAddr sl32 rfl rfl (by rw [hp2.2.2.1, ← hyl]; exact hyv3.non) (by have := hp2.2.2.1; omega)) rfl ?_
                refine Sx.calm rfl rfl (Cm.field fld54_0 rfl) rfl ?_
                refine Sx.calm rfl rfl (Cm.ld sca9 rfl (hyv3.rowZ k rfl hyk 0 _ rfl)) rfl ?_
                refine Sx.calm rfl rfl (Cm.field fld34_6 rfl) rfl ?_
                refine Sx.calm rfl rfl (Cm.ld sca32 rfl (by first | exact cellF hgp3 rfl | exact cellF hgq3 rfl)) rfl ?_
                refine Sx.calm rfl rfl (Cm.move rfl) rfl ?_
                refine Sx.calm rfl rfl (Cm.indexAddr sl32 rfl rfl (by rw [hq2.2.2.1, ← hzl]; exact hzv3.non) (by have := hq2.2.2.1; omega)) rfl ?_
                refine Sx.calm rfl rfl (Cm.field fld54_0 rfl) rfl ?_
                refine Sx.calm rfl rfl (Cm.ld sca9 rfl (hzv3.rowZ k rfl hzk 0 _ rfl)) rfl ?_
                refine Sx.fork rfl rfl (Cm.neqBs rfl rfl) rfl (fun h69 => ?_) (fun h69 => ?_)
                ·
                  refine Sx.calm rfl rfl (Cm.move rfl) rfl ?_
                  refine Sx.skip rfl rfl rfl rfl rfl rfl ?_
                  refine Sx.skip rfl rfl rfl rfl rfl rfl ?_
                  refine Sx.skip rfl rfl rfl rfl rfl rfl ?_
                  refine Sx.skip rfl rfl rfl rfl rfl rfl ?_
                  refine Sx.skip rfl rfl rfl rfl rfl rfl ?_
                  refine Sx.skip rfl rfl rfl rfl rfl rfl ?_
                  refine Sx.skip rfl rfl rfl rfl rfl rfl ?_
                  refine Sx.skip rfl rfl rfl rfl rfl rfl ?_
                  refine Sx.skip rfl rfl rfl rfl rfl rfl ?_
                  refine Sx.skip rfl rfl rfl rfl rfl rfl ?_
                  refine Sx.skip rfl rfl rfl rfl rfl rfl ?_
                  refine Sx.skip rfl rfl rfl rfl rfl rfl ?_
                  refine Sx.skip rfl rfl rfl rfl rfl rfl ?_
                  refine Sx.skip rfl rfl rfl rfl rfl rfl ?_
                  refine Sx.skip rfl rfl rfl rfl rfl rfl ?_
                  refine Sx.calm rfl rfl (Cm.pick_t rfl rfl) rfl ?_
                  refine Sx.nil ?_
                  refine At.weak [(2, _), (3, _), (5, _), (54, _), (86, _)] ⟨rfl, rfl, rfl, rfl, rfl, trivial⟩ ?_
                  refine At.go ?_
                  refine Sc.cond_t rfl ?_
                  refine Sc.seq ?_
                  refine Sc.region ?_
                  refine Sl.calm (Cm.assign rfl) rfl ?_
                  refine Sl.nil ?_
                  refine At.go ?_
                  refine Sc.ret ?_
                  refine At.block_ret ?_
                  refine At.then_ret ?_
                  refine At.then_ret ?_
                  refine At.block_ret ?_
                  refine At.then_ret ?_
                  refine At.ret1 rfl rfl ?_
                  first
                    | exact no _ (fun A => h10 A.1) hF2
                    | exact no _ (fun A => h16 A.2.1) hF2
                    | exact no _ (fun A => h25 A.2.2.2.2.1) hF2
                    | exact no _ (fun A => h32 A.2.2.1) hF2
                    | exact no _ (fun A => (bne_iff_ne.1 h39) A.2.2.2.1) hF2
                    | exact no _ (fun A => h48 (by rw [A.2.2.2.2.2])) hF2
                    | exact no _ (fun A => h69 (by rw [A.2.2.2.2.2, hbk] at hak; cases hak; rfl)) ((hF2.trans hF3).draws 1)
                    | exact no _ (fun A => h85 (by rw [A.2.2.2.2.2, hbk] at hak; cases hak; rfl)) ((hF2.trans hF3).draws 1)
                    | exact ⟨_, rfl, by rw [decide_eq_true (show Alk p.2 q.2 from ⟨Classical.not_not.1 h10, Classical.not_not.1 h16, Classical.not_not.1 h32, by simpa using h39, Classical.not_not.1 h25, opt_all hxe (by omega) hsame⟩)], hF2.trans hF3⟩
                ·
                  refine Sx.calm rfl rfl (Cm.move rfl) rfl ?_
                  refine Sx.want rfl rfl rfl rfl (Cm.field fld34_6 rfl) rfl ?_
                  refine Sx.want rfl rfl rfl rfl (Cm.ld sca32 rfl (by first | exact cellF hgp3 rfl | exact cellF hgq3 rfl)) rfl ?_
                  refine Sx.want rfl rfl rfl rfl (Cm.move rfl) rfl ?_
                  refine Sx.want rfl rfl rfl rfl (Cm.indexAddr sl32 rfl rfl (by rw [hp2.2.2.1, ← hyl]; exact hyv3.non) (by have := hp2.2.2.1; omega)) rfl ?_
                  refine Sx.want rfl rfl rfl rfl (Cm.field fld54_1 rfl) rfl ?_
                  refine Sx.want rfl rfl rfl rfl (Cm.ofEq (u := .slice ah.a a.2.length ah.c) (Cm.ld sca31 rfl (hyv3.rowZ k rfl hyk 1 _ rfl)) (by rw [← hva.1]; rfl)) rfl ?_
                  refine Sx.want rfl rfl rfl rfl (Cm.strIn sl31 ty5 ty9 rfl hva.2.1) rfl ?_
                  refine Sx.want rfl rfl rfl rfl (Cm.field fld34_6 rfl) rfl ?_
                  refine Sx.want rfl rfl rfl rfl (Cm.ld sca32 rfl (by first | exact cellF hgp3 rfl | exact cellF hgq3 rfl)) rfl ?_
                  refine Sx.want rfl rfl rfl rfl (Cm.move rfl) rfl ?_
                  refine Sx.want rfl rfl rfl rfl (Cm.indexAddr sl32 rfl rfl (by rw [hq2.2.2.1, ← hzl]; exact hzv3.non) (by have := hq2.2.2.1; omega)) rfl ?_
                  refine Sx.want rfl rfl rfl rfl (Cm.field fld54_1 rfl) rfl ?_
                  refine Sx.want rfl rfl rfl rfl (Cm.ofEq (u := .slice bh.a b.2.length bh.c) (Cm.ld sca31 rfl (hzv3.rowZ k rfl hzk 1 _ rfl)) (by rw [← hvb.1]; rfl)) rfl ?_
                  refine Sx.want rfl rfl rfl rfl (Cm.strIn sl31 ty5 ty9 rfl hvb.2.1) rfl ?_
                  refine Sx.forkWant rfl rfl rfl rfl (Cm.neqBs rfl rfl) rfl (fun h85 => ?_) (fun h85 => ?_)
                  ·
                    refine Sx.calm rfl rfl (Cm.pick_f rfl rfl) rfl ?_
                    refine Sx.nil ?_
                    refine At.weak [(2, _), (3, _), (5, _), (54, _), (86, _)] ⟨rfl, rfl, rfl, rfl, rfl, trivial⟩ ?_
                    refine At.go ?_
                    refine Sc.cond_t rfl ?_
                    refine Sc.seq ?_
                    refine Sc.region ?_
                    refine Sl.calm (Cm.assign rfl) rfl ?_
                    refine Sl.nil ?_
                    refine At.go ?_
                    refine Sc.ret ?_
                    refine At.block_ret ?_
                    refine At.then_ret ?_
                    refine At.then_ret ?_
                    refine At.block_ret ?_
                    refine At.then_ret ?_
                    refine At.ret1 rfl rfl ?_
                    first
                      | exact no _ (fun A => h10 A.1) hF2
                      | exact no _ (fun A => h16 A.2.1) hF2
                      | exact no _ (fun A => h25 A.2.2.2.2.1) hF2
                      | exact no _ (fun A => h32 A.2.2.1) hF2
                      | exact no _ (fun A => (bne_iff_ne.1 h39) A.2.2.2.1) hF2
                      | exact no _ (fun A => h48 (by rw [A.2.2.2.2.2])) hF2
                      | exact no _ (fun A => h69 (by rw [A.2.2.2.2.2, hbk] at hak; cases hak; rfl)) ((hF2.trans hF3).draws 1)
                      | exact no _ (fun A => h85 (by rw [A.2.2.2.2.2, hbk] at hak; cases hak; rfl)) ((hF2.trans hF3).draws 1)
                      | exact ⟨_, rfl, by rw [decide_eq_true (show Alk p.2 q.2 from ⟨Classical.not_not.1 h10, Classical.not_not.1 h16, Classical.not_not.1 h32, by simpa using h39, Classical.not_not.1 h25, opt_all hxe (by omega) hsame⟩)], hF2.trans hF3⟩
                  ·
                    refine Sx.calm rfl rfl (Cm.pick_f rfl rfl) rfl ?_
                    refine Sx.nil ?_
                    refine At.weak [(2, _), (3, _), (5, _), (54, _), (86, _)] ⟨rfl, rfl, rfl, rfl, rfl, trivial⟩ ?_
                    refine At.go ?_
                    refine Sc.cond_f rfl ?_
                    refine Sc.skip ?_
                    refine At.block_normal ?_
                    refine At.go ?_
                    refine Sc.region ?_
                    refine Sl.calm (Cm.move rfl) rfl ?_
                    refine Sl.calm (Cm.add64 rfl rfl (by omega)) rfl ?_
                    refine Sl.calm (Cm.assign rfl) rfl ?_
                    refine Sl.nil ?_
                    refine At.again (k + 1) ⟨rfl, rfl, rfl, trivial⟩ ⟨by omega, fun j hj => ?_, hF3.draws 1⟩ (by show p.2.xs.length - (k + 1) < p.2.xs.length - k; omega)
                    by_cases e : j = k
                    · subst e; rw [hak, hbk]; exact congrArg _ (Prod.ext (Classical.not_not.1 h69) (Classical.not_not.1 h85))
                    · exact hsame j (by omega)
              ·
                refine Sl.nil ?_
                refine At.weak [(2, _), (3, _), (5, _), (54, _)] ⟨rfl, rfl, rfl, rfl, trivial⟩ ?_
                refine At.go ?_
                refine Sc.cond_f rfl ?_
                refine Sc.exit ?_
                refine At.then_exit ?_
                refine At.then_exit ?_
                refine At.block_hit ?_
                refine At.go ?_
                refine Sc.seq ?_
                refine Sc.region ?_
                refine Sl.calm (Cm.assign rfl) rfl ?_
                refine Sl.nil ?_
                refine At.go ?_
                refine Sc.ret ?_
                refine At.ret1 rfl rfl ?_
                first
                  | exact no _ (fun A => h10 A.1) hF2
                  | exact no _ (fun A => h16 A.2.1) hF2
                  | exact no _ (fun A => h25 A.2.2.2.2.1) hF2
                  | exact no _ (fun A => h32 A.2.2.1) hF2
                  | exact no _ (fun A => (bne_iff_ne.1 h39) A.2.2.2.1) hF2
                  | exact no _ (fun A => h48 (by rw [A.2.2.2.2.2])) hF2
                  | exact no _ (fun A => h69 (by rw [A.2.2.2.2.2, hbk] at hak; cases hak; rfl)) ((hF2.trans hF3).draws 1)
                  | exact no _ (fun A => h85 (by rw [A.2.2.2.2.2, hbk] at hak; cases hak; rfl)) ((hF2.trans hF3).draws 1)
                  | exact ⟨_, rfl, by rw [decide_eq_true (show Alk p.2 q.2 from ⟨Classical.not_not.1 h10, Classical.not_not.1 h16, Classical.not_not.1 h32, by simpa using h39, Classical.not_not.1 h25, opt_all hxe (by omega) hsame⟩)], hF2.trans hF3⟩
end Go.Proofs.Ytpnfjfbfgaiolaa
