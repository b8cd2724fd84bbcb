/- inode: May, the reference's. No condition. -/
import Derived.Test.YtoaplldahbbaiaaInB
namespace Go.Proofs.Ytoaplldahbbaiaa
open Go Go.RowKit
set_option linter.unusedVariables false

set_option maxHeartbeats 2000000 in
theorem rmay_ok (F : Nat → Int) (T : List UInt8) (W : World) (hT : T.length ≤ maxLen) :
    Calls Try.prog 24 [.agg (inoC F T).toArray].toArray W (Ret fun v w' => v = .bool (decide (mayI F T)) ∧ Foot nob W w') := by
  have hTl : (T.length : Int) ≤ 9223372036854775807 := by unfold maxLen at hT; omega
  refine calls_of_sc 201 [(0, _)] Try.func24 rfl rfl rfl (enter_slots ⟨rfl, trivial⟩) ?_
  refine Sc.seq ?_
  refine Sc.region ?_
  refine Sl.box rfl rfl ?_
  intro w1 hg1 hs1 hf1
  have hg1 : w1.heap[W.heap.size]? = some (.cells (inoC F T).toArray 33 (0, 0)) := hg1
  refine Sl.calm (Cm.assign rfl) rfl ?_
  refine Sl.nil ?_
  refine At.go ?_
  refine Sc.seq ?_
  refine Sc.seq ?_
  refine Sc.region ?_
  refine Sl.calm (Cm.field fld33_1 rfl) rfl ?_
  refine Sl.calm (Cm.ld sca3 rfl (cellF hg1 rfl)) rfl ?_
  refine Sl.fork (Cm.lss rfl rfl) rfl (fun h6 => ?_) (fun h6 => ?_)
  ·
    refine Sl.calm (Cm.move rfl) rfl ?_
    refine Sl.skip rfl rfl rfl rfl ?_
    refine Sl.skip rfl rfl rfl rfl ?_
    refine Sl.skip rfl rfl rfl rfl ?_
    refine Sl.calm (Cm.pick_t rfl rfl) rfl ?_
    refine Sl.calm (Cm.move rfl) rfl ?_
    refine Sl.skip rfl rfl rfl rfl ?_
    refine Sl.skip rfl rfl rfl rfl ?_
    refine Sl.skip rfl rfl rfl rfl ?_
    refine Sl.calm (Cm.pick_t rfl rfl) rfl ?_
    refine Sl.calm (Cm.move rfl) rfl ?_
    refine Sl.skip rfl rfl rfl rfl ?_
    refine Sl.skip rfl rfl rfl rfl ?_
    refine Sl.skip rfl rfl rfl rfl ?_
    refine Sl.calm (Cm.pick_t rfl rfl) rfl ?_
    refine Sl.calm (Cm.move rfl) rfl ?_
    refine Sl.skip rfl rfl rfl rfl ?_
    refine Sl.skip rfl rfl rfl rfl ?_
    refine Sl.skip rfl rfl rfl rfl ?_
    refine Sl.calm (Cm.pick_t rfl rfl) rfl ?_
    refine Sl.calm (Cm.move rfl) rfl ?_
    refine Sl.skip rfl rfl rfl rfl ?_
    refine Sl.skip rfl rfl rfl rfl ?_
    refine Sl.skip rfl rfl rfl rfl ?_
    refine Sl.calm (Cm.pick_t rfl rfl) rfl ?_
    refine Sl.calm (Cm.move rfl) rfl ?_
    refine Sl.skip rfl rfl rfl rfl ?_
    refine Sl.skip rfl rfl rfl rfl ?_
    refine Sl.skip rfl rfl rfl rfl ?_
    refine Sl.calm (Cm.pick_t rfl rfl) rfl ?_
    refine Sl.calm (Cm.move rfl) rfl ?_
    refine Sl.skip rfl rfl rfl rfl ?_
    refine Sl.skip rfl rfl rfl rfl ?_
    refine Sl.skip rfl rfl rfl rfl ?_
    refine Sl.calm (Cm.pick_t rfl rfl) rfl ?_
    refine Sl.calm (Cm.move rfl) rfl ?_
    refine Sl.skip rfl rfl rfl rfl ?_
    refine Sl.skip rfl rfl rfl rfl ?_
    refine Sl.skip rfl rfl rfl rfl ?_
    refine Sl.calm (Cm.pick_t rfl rfl) rfl ?_
    refine Sl.calm (Cm.move rfl) rfl ?_
    refine Sl.skip rfl rfl rfl rfl ?_
    refine Sl.skip rfl rfl rfl rfl ?_
    refine Sl.skip rfl rfl rfl rfl ?_
    refine Sl.calm (Cm.pick_t rfl rfl) rfl ?_
    refine Sl.nil ?_
    refine At.weak [(0, _), (1, _), (2, _), (51, _)] ⟨rfl, rfl, rfl, rfl, trivial⟩ ?_
    refine At.go ?_
    refine Sc.cond_t rfl ?_
    refine Sc.seq ?_
    refine Sc.region ?_
    refine Sl.calm (Cm.assign rfl) rfl ?_
    refine Sl.nil ?_
    refine At.go ?_
    refine Sc.ret ?_
    refine At.then_ret ?_
    refine At.ret1 rfl rfl ?_
    first
      | exact ⟨_, rfl, notD (fun h => by have := h.1; unfold mayA at this; omega), hf1⟩
      | exact ⟨_, rfl, notD (fun h => by have := h.1; unfold mayA at this; omega), hf1.draws 1⟩
      | exact ⟨_, rfl, yesD ⟨by unfold mayA; omega, fun h3 => by omega⟩, hf1⟩
      | exact ⟨_, rfl, yesD ⟨by unfold mayA; omega, fun h3 => by omega⟩, hf1.draws 1⟩
      | exact ⟨_, rfl, notD (fun h => h.2 (by omega) hnul), hf1⟩
      | exact ⟨_, rfl, yesD ⟨by unfold mayA; omega, fun h3 h0 => by obtain ⟨i, hi, e⟩ := List.getElem_of_mem h0; exact hgood i (by omega) (by simp [List.getD, hi, e])⟩, hf1⟩
  ·
    refine Sl.calm (Cm.move rfl) rfl ?_
    refine Sl.want rfl rfl (Cm.field fld33_1 rfl) rfl ?_
    refine Sl.want rfl rfl (Cm.ld sca3 rfl (cellF hg1 rfl)) rfl ?_
    refine Sl.forkWant rfl rfl (Cm.gtr rfl rfl) rfl (fun h10 => ?_) (fun h10 => ?_)
    ·
      refine Sl.calm (Cm.pick_f rfl rfl) rfl ?_
      refine Sl.calm (Cm.move rfl) rfl ?_
      refine Sl.skip rfl rfl rfl rfl ?_
      refine Sl.skip rfl rfl rfl rfl ?_
      refine Sl.skip rfl rfl rfl rfl ?_
      refine Sl.calm (Cm.pick_t rfl rfl) rfl ?_
      refine Sl.calm (Cm.move rfl) rfl ?_
      refine Sl.skip rfl rfl rfl rfl ?_
      refine Sl.skip rfl rfl rfl rfl ?_
      refine Sl.skip rfl rfl rfl rfl ?_
      refine Sl.calm (Cm.pick_t rfl rfl) rfl ?_
      refine Sl.calm (Cm.move rfl) rfl ?_
      refine Sl.skip rfl rfl rfl rfl ?_
      refine Sl.skip rfl rfl rfl rfl ?_
      refine Sl.skip rfl rfl rfl rfl ?_
      refine Sl.calm (Cm.pick_t rfl rfl) rfl ?_
      refine Sl.calm (Cm.move rfl) rfl ?_
      refine Sl.skip rfl rfl rfl rfl ?_
      refine Sl.skip rfl rfl rfl rfl ?_
      refine Sl.skip rfl rfl rfl rfl ?_
      refine Sl.calm (Cm.pick_t rfl rfl) rfl ?_
      refine Sl.calm (Cm.move rfl) rfl ?_
      refine Sl.skip rfl rfl rfl rfl ?_
      refine Sl.skip rfl rfl rfl rfl ?_
      refine Sl.skip rfl rfl rfl rfl ?_
      refine Sl.calm (Cm.pick_t rfl rfl) rfl ?_
      refine Sl.calm (Cm.move rfl) rfl ?_
      refine Sl.skip rfl rfl rfl rfl ?_
      refine Sl.skip rfl rfl rfl rfl ?_
      refine Sl.skip rfl rfl rfl rfl ?_
      refine Sl.calm (Cm.pick_t rfl rfl) rfl ?_
      refine Sl.calm (Cm.move rfl) rfl ?_
      refine Sl.skip rfl rfl rfl rfl ?_
      refine Sl.skip rfl rfl rfl rfl ?_
      refine Sl.skip rfl rfl rfl rfl ?_
      refine Sl.calm (Cm.pick_t rfl rfl) rfl ?_
      refine Sl.calm (Cm.move rfl) rfl ?_
      refine Sl.skip rfl rfl rfl rfl ?_
      refine Sl.skip rfl rfl rfl rfl ?_
      refine Sl.skip rfl rfl rfl rfl ?_
      refine Sl.calm (Cm.pick_t rfl rfl) rfl ?_
      refine Sl.nil ?_
      refine At.weak [(0, _), (1, _), (2, _), (51, _)] ⟨rfl, rfl, rfl, rfl, trivial⟩ ?_
      refine At.go ?_
      refine Sc.cond_t rfl ?_
      refine Sc.seq ?_
      refine Sc.region ?_
      refine Sl.calm (Cm.assign rfl) rfl ?_
      refine Sl.nil ?_
      refine At.go ?_
      refine Sc.ret ?_
      refine At.then_ret ?_
      refine At.ret1 rfl rfl ?_
      first
        | exact ⟨_, rfl, notD (fun h => by have := h.1; unfold mayA at this; omega), hf1⟩
        | exact ⟨_, rfl, notD (fun h => by have := h.1; unfold mayA at this; omega), hf1.draws 1⟩
        | exact ⟨_, rfl, yesD ⟨by unfold mayA; omega, fun h3 => by omega⟩, hf1⟩
        | exact ⟨_, rfl, yesD ⟨by unfold mayA; omega, fun h3 => by omega⟩, hf1.draws 1⟩
        | exact ⟨_, rfl, notD (fun h => h.2 (by omega) hnul), hf1⟩
        | exact ⟨_, rfl, yesD ⟨by unfold mayA; omega, fun h3 h0 => by obtain ⟨i, hi, e⟩ := List.getElem_of_mem h0; exact hgood i (by omega) (by simp [List.getD, hi, e])⟩, hf1⟩
    ·
      refine Sl.calm (Cm.pick_f rfl rfl) rfl ?_
      refine Sl.calm (Cm.move rfl) rfl ?_
      refine Sl.want rfl rfl (Cm.field fld33_2 rfl) rfl ?_
      refine Sl.want rfl rfl (Cm.ld sca3 rfl (cellF hg1 rfl)) rfl ?_
      refine Sl.forkWant rfl rfl (Cm.lss rfl rfl) rfl (fun h15 => ?_) (fun h15 => ?_)
      ·
        refine Sl.calm (Cm.pick_f rfl rfl) rfl ?_
        refine Sl.calm (Cm.move rfl) rfl ?_
        refine Sl.skip rfl rfl rfl rfl ?_
        refine Sl.skip rfl rfl rfl rfl ?_
        refine Sl.skip rfl rfl rfl rfl ?_
        refine Sl.calm (Cm.pick_t rfl rfl) rfl ?_
        refine Sl.calm (Cm.move rfl) rfl ?_
        refine Sl.skip rfl rfl rfl rfl ?_
        refine Sl.skip rfl rfl rfl rfl ?_
        refine Sl.skip rfl rfl rfl rfl ?_
        refine Sl.calm (Cm.pick_t rfl rfl) rfl ?_
        refine Sl.calm (Cm.move rfl) rfl ?_
        refine Sl.skip rfl rfl rfl rfl ?_
        refine Sl.skip rfl rfl rfl rfl ?_
        refine Sl.skip rfl rfl rfl rfl ?_
        refine Sl.calm (Cm.pick_t rfl rfl) rfl ?_
        refine Sl.calm (Cm.move rfl) rfl ?_
        refine Sl.skip rfl rfl rfl rfl ?_
        refine Sl.skip rfl rfl rfl rfl ?_
        refine Sl.skip rfl rfl rfl rfl ?_
        refine Sl.calm (Cm.pick_t rfl rfl) rfl ?_
        refine Sl.calm (Cm.move rfl) rfl ?_
        refine Sl.skip rfl rfl rfl rfl ?_
        refine Sl.skip rfl rfl rfl rfl ?_
        refine Sl.skip rfl rfl rfl rfl ?_
        refine Sl.calm (Cm.pick_t rfl rfl) rfl ?_
        refine Sl.calm (Cm.move rfl) rfl ?_
        refine Sl.skip rfl rfl rfl rfl ?_
        refine Sl.skip rfl rfl rfl rfl ?_
        refine Sl.skip rfl rfl rfl rfl ?_
        refine Sl.calm (Cm.pick_t rfl rfl) rfl ?_
        refine Sl.calm (Cm.move rfl) rfl ?_
        refine Sl.skip rfl rfl rfl rfl ?_
        refine Sl.skip rfl rfl rfl rfl ?_
        refine Sl.skip rfl rfl rfl rfl ?_
        refine Sl.calm (Cm.pick_t rfl rfl) rfl ?_
        refine Sl.nil ?_
        refine At.weak [(0, _), (1, _), (2, _), (51, _)] ⟨rfl, rfl, rfl, rfl, trivial⟩ ?_
        refine At.go ?_
        refine Sc.cond_t rfl ?_
        refine Sc.seq ?_
        refine Sc.region ?_
        refine Sl.calm (Cm.assign rfl) rfl ?_
        refine Sl.nil ?_
        refine At.go ?_
        refine Sc.ret ?_
        refine At.then_ret ?_
        refine At.ret1 rfl rfl ?_
        first
          | exact ⟨_, rfl, notD (fun h => by have := h.1; unfold mayA at this; omega), hf1⟩
          | exact ⟨_, rfl, notD (fun h => by have := h.1; unfold mayA at this; omega), hf1.draws 1⟩
          | exact ⟨_, rfl, yesD ⟨by unfold mayA; omega, fun h3 => by omega⟩, hf1⟩
          | exact ⟨_, rfl, yesD ⟨by unfold mayA; omega, fun h3 => by omega⟩, hf1.draws 1⟩
          | exact ⟨_, rfl, notD (fun h => h.2 (by omega) hnul), hf1⟩
          | exact ⟨_, rfl, yesD ⟨by unfold mayA; omega, fun h3 h0 => by obtain ⟨i, hi, e⟩ := List.getElem_of_mem h0; exact hgood i (by omega) (by simp [List.getD, hi, e])⟩, hf1⟩
      ·
        refine Sl.calm (Cm.pick_f rfl rfl) rfl ?_
        refine Sl.calm (Cm.move rfl) rfl ?_
        refine Sl.want rfl rfl (Cm.field fld33_2 rfl) rfl ?_
        refine Sl.want rfl rfl (Cm.ld sca3 rfl (cellF hg1 rfl)) rfl ?_
        refine Sl.forkWant rfl rfl (Cm.gtr rfl rfl) rfl (fun h20 => ?_) (fun h20 => ?_)
        ·
          refine Sl.calm (Cm.pick_f rfl rfl) rfl ?_
          refine Sl.calm (Cm.move rfl) rfl ?_
          refine Sl.skip rfl rfl rfl rfl ?_
          refine Sl.skip rfl rfl rfl rfl ?_
          refine Sl.skip rfl rfl rfl rfl ?_
          refine Sl.calm (Cm.pick_t rfl rfl) rfl ?_
          refine Sl.calm (Cm.move rfl) rfl ?_
          refine Sl.skip rfl rfl rfl rfl ?_
          refine Sl.skip rfl rfl rfl rfl ?_
          refine Sl.skip rfl rfl rfl rfl ?_
          refine Sl.calm (Cm.pick_t rfl rfl) rfl ?_
          refine Sl.calm (Cm.move rfl) rfl ?_
          refine Sl.skip rfl rfl rfl rfl ?_
          refine Sl.skip rfl rfl rfl rfl ?_
          refine Sl.skip rfl rfl rfl rfl ?_
          refine Sl.calm (Cm.pick_t rfl rfl) rfl ?_
          refine Sl.calm (Cm.move rfl) rfl ?_
          refine Sl.skip rfl rfl rfl rfl ?_
          refine Sl.skip rfl rfl rfl rfl ?_
          refine Sl.skip rfl rfl rfl rfl ?_
          refine Sl.calm (Cm.pick_t rfl rfl) rfl ?_
          refine Sl.calm (Cm.move rfl) rfl ?_
          refine Sl.skip rfl rfl rfl rfl ?_
          refine Sl.skip rfl rfl rfl rfl ?_
          refine Sl.skip rfl rfl rfl rfl ?_
          refine Sl.calm (Cm.pick_t rfl rfl) rfl ?_
          refine Sl.calm (Cm.move rfl) rfl ?_
          refine Sl.skip rfl rfl rfl rfl ?_
          refine Sl.skip rfl rfl rfl rfl ?_
          refine Sl.skip rfl rfl rfl rfl ?_
          refine Sl.calm (Cm.pick_t rfl rfl) rfl ?_
          refine Sl.nil ?_
          refine At.weak [(0, _), (1, _), (2, _), (51, _)] ⟨rfl, rfl, rfl, rfl, trivial⟩ ?_
          refine At.go ?_
          refine Sc.cond_t rfl ?_
          refine Sc.seq ?_
          refine Sc.region ?_
          refine Sl.calm (Cm.assign rfl) rfl ?_
          refine Sl.nil ?_
          refine At.go ?_
          refine Sc.ret ?_
          refine At.then_ret ?_
          refine At.ret1 rfl rfl ?_
          first
            | exact ⟨_, rfl, notD (fun h => by have := h.1; unfold mayA at this; omega), hf1⟩
            | exact ⟨_, rfl, notD (fun h => by have := h.1; unfold mayA at this; omega), hf1.draws 1⟩
            | exact ⟨_, rfl, yesD ⟨by unfold mayA; omega, fun h3 => by omega⟩, hf1⟩
            | exact ⟨_, rfl, yesD ⟨by unfold mayA; omega, fun h3 => by omega⟩, hf1.draws 1⟩
            | exact ⟨_, rfl, notD (fun h => h.2 (by omega) hnul), hf1⟩
            | exact ⟨_, rfl, yesD ⟨by unfold mayA; omega, fun h3 h0 => by obtain ⟨i, hi, e⟩ := List.getElem_of_mem h0; exact hgood i (by omega) (by simp [List.getD, hi, e])⟩, hf1⟩
        ·
          refine Sl.calm (Cm.pick_f rfl rfl) rfl ?_
          refine Sl.calm (Cm.move rfl) rfl ?_
          refine Sl.want rfl rfl (Cm.field fld33_3 rfl) rfl ?_
          refine Sl.want rfl rfl (Cm.ld sca3 rfl (cellF hg1 rfl)) rfl ?_
          refine Sl.forkWant rfl rfl (Cm.lss rfl rfl) rfl (fun h25 => ?_) (fun h25 => ?_)
          ·
            refine Sl.calm (Cm.pick_f rfl rfl) rfl ?_
            refine Sl.calm (Cm.move rfl) rfl ?_
            refine Sl.skip rfl rfl rfl rfl ?_
            refine Sl.skip rfl rfl rfl rfl ?_
            refine Sl.skip rfl rfl rfl rfl ?_
            refine Sl.calm (Cm.pick_t rfl rfl) rfl ?_
            refine Sl.calm (Cm.move rfl) rfl ?_
            refine Sl.skip rfl rfl rfl rfl ?_
            refine Sl.skip rfl rfl rfl rfl ?_
            refine Sl.skip rfl rfl rfl rfl ?_
            refine Sl.calm (Cm.pick_t rfl rfl) rfl ?_
            refine Sl.calm (Cm.move rfl) rfl ?_
            refine Sl.skip rfl rfl rfl rfl ?_
            refine Sl.skip rfl rfl rfl rfl ?_
            refine Sl.skip rfl rfl rfl rfl ?_
            refine Sl.calm (Cm.pick_t rfl rfl) rfl ?_
            refine Sl.calm (Cm.move rfl) rfl ?_
            refine Sl.skip rfl rfl rfl rfl ?_
            refine Sl.skip rfl rfl rfl rfl ?_
            refine Sl.skip rfl rfl rfl rfl ?_
            refine Sl.calm (Cm.pick_t rfl rfl) rfl ?_
            refine Sl.calm (Cm.move rfl) rfl ?_
            refine Sl.skip rfl rfl rfl rfl ?_
            refine Sl.skip rfl rfl rfl rfl ?_
            refine Sl.skip rfl rfl rfl rfl ?_
            refine Sl.calm (Cm.pick_t rfl rfl) rfl ?_
            refine Sl.nil ?_
            refine At.weak [(0, _), (1, _), (2, _), (51, _)] ⟨rfl, rfl, rfl, rfl, trivial⟩ ?_
            refine At.go ?_
            refine Sc.cond_t rfl ?_
            refine Sc.seq ?_
            refine Sc.region ?_
            refine Sl.calm (Cm.assign rfl) rfl ?_
            refine Sl.nil ?_
            refine At.go ?_
            refine Sc.ret ?_
            refine At.then_ret ?_
            refine At.ret1 rfl rfl ?_
            first
              | exact ⟨_, rfl, notD (fun h => by have := h.1; unfold mayA at this; omega), hf1⟩
              | exact ⟨_, rfl, notD (fun h => by have := h.1; unfold mayA at this; omega), hf1.draws 1⟩
              | exact ⟨_, rfl, yesD ⟨by unfold mayA; omega, fun h3 => by omega⟩, hf1⟩
              | exact ⟨_, rfl, yesD ⟨by unfold mayA; omega, fun h3 => by omega⟩, hf1.draws 1⟩
              | exact ⟨_, rfl, notD (fun h => h.2 (by omega) hnul), hf1⟩
              | exact ⟨_, rfl, yesD ⟨by unfold mayA; omega, fun h3 h0 => by obtain ⟨i, hi, e⟩ := List.getElem_of_mem h0; exact hgood i (by omega) (by simp [List.getD, hi, e])⟩, hf1⟩
          ·
            refine Sl.calm (Cm.pick_f rfl rfl) rfl ?_
            refine Sl.calm (Cm.move rfl) rfl ?_
            refine Sl.want rfl rfl (Cm.field fld33_3 rfl) rfl ?_
            refine Sl.want rfl rfl (Cm.ld sca3 rfl (cellF hg1 rfl)) rfl ?_
            refine Sl.forkWant rfl rfl (Cm.gtr rfl rfl) rfl (fun h30 => ?_) (fun h30 => ?_)
            ·
              refine Sl.calm (Cm.pick_f rfl rfl) rfl ?_
              refine Sl.calm (Cm.move rfl) rfl ?_
              refine Sl.skip rfl rfl rfl rfl ?_
              refine Sl.skip rfl rfl rfl rfl ?_
              refine Sl.skip rfl rfl rfl rfl ?_
              refine Sl.calm (Cm.pick_t rfl rfl) rfl ?_
              refine Sl.calm (Cm.move rfl) rfl ?_
              refine Sl.skip rfl rfl rfl rfl ?_
              refine Sl.skip rfl rfl rfl rfl ?_
              refine Sl.skip rfl rfl rfl rfl ?_
              refine Sl.calm (Cm.pick_t rfl rfl) rfl ?_
              refine Sl.calm (Cm.move rfl) rfl ?_
              refine Sl.skip rfl rfl rfl rfl ?_
              refine Sl.skip rfl rfl rfl rfl ?_
              refine Sl.skip rfl rfl rfl rfl ?_
              refine Sl.calm (Cm.pick_t rfl rfl) rfl ?_
              refine Sl.calm (Cm.move rfl) rfl ?_
              refine Sl.skip rfl rfl rfl rfl ?_
              refine Sl.skip rfl rfl rfl rfl ?_
              refine Sl.skip rfl rfl rfl rfl ?_
              refine Sl.calm (Cm.pick_t rfl rfl) rfl ?_
              refine Sl.nil ?_
              refine At.weak [(0, _), (1, _), (2, _), (51, _)] ⟨rfl, rfl, rfl, rfl, trivial⟩ ?_
              refine At.go ?_
              refine Sc.cond_t rfl ?_
              refine Sc.seq ?_
              refine Sc.region ?_
              refine Sl.calm (Cm.assign rfl) rfl ?_
              refine Sl.nil ?_
              refine At.go ?_
              refine Sc.ret ?_
              refine At.then_ret ?_
              refine At.ret1 rfl rfl ?_
              first
                | exact ⟨_, rfl, notD (fun h => by have := h.1; unfold mayA at this; omega), hf1⟩
                | exact ⟨_, rfl, notD (fun h => by have := h.1; unfold mayA at this; omega), hf1.draws 1⟩
                | exact ⟨_, rfl, yesD ⟨by unfold mayA; omega, fun h3 => by omega⟩, hf1⟩
                | exact ⟨_, rfl, yesD ⟨by unfold mayA; omega, fun h3 => by omega⟩, hf1.draws 1⟩
                | exact ⟨_, rfl, notD (fun h => h.2 (by omega) hnul), hf1⟩
                | exact ⟨_, rfl, yesD ⟨by unfold mayA; omega, fun h3 h0 => by obtain ⟨i, hi, e⟩ := List.getElem_of_mem h0; exact hgood i (by omega) (by simp [List.getD, hi, e])⟩, hf1⟩
            ·
              refine Sl.calm (Cm.pick_f rfl rfl) rfl ?_
              refine Sl.calm (Cm.move rfl) rfl ?_
              refine Sl.want rfl rfl (Cm.field fld33_4 rfl) rfl ?_
              refine Sl.want rfl rfl (Cm.ld sca3 rfl (cellF hg1 rfl)) rfl ?_
              refine Sl.forkWant rfl rfl (Cm.lss rfl rfl) rfl (fun h35 => ?_) (fun h35 => ?_)
              ·
                refine Sl.calm (Cm.pick_f rfl rfl) rfl ?_
                refine Sl.calm (Cm.move rfl) rfl ?_
                refine Sl.skip rfl rfl rfl rfl ?_
                refine Sl.skip rfl rfl rfl rfl ?_
                refine Sl.skip rfl rfl rfl rfl ?_
                refine Sl.calm (Cm.pick_t rfl rfl) rfl ?_
                refine Sl.calm (Cm.move rfl) rfl ?_
                refine Sl.skip rfl rfl rfl rfl ?_
                refine Sl.skip rfl rfl rfl rfl ?_
                refine Sl.skip rfl rfl rfl rfl ?_
                refine Sl.calm (Cm.pick_t rfl rfl) rfl ?_
                refine Sl.calm (Cm.move rfl) rfl ?_
                refine Sl.skip rfl rfl rfl rfl ?_
                refine Sl.skip rfl rfl rfl rfl ?_
                refine Sl.skip rfl rfl rfl rfl ?_
                refine Sl.calm (Cm.pick_t rfl rfl) rfl ?_
                refine Sl.nil ?_
                refine At.weak [(0, _), (1, _), (2, _), (51, _)] ⟨rfl, rfl, rfl, rfl, trivial⟩ ?_
                refine At.go ?_
                refine Sc.cond_t rfl ?_
                refine Sc.seq ?_
                refine Sc.region ?_
                refine Sl.calm (Cm.assign rfl) rfl ?_
                refine Sl.nil ?_
                refine At.go ?_
                refine Sc.ret ?_
                refine At.then_ret ?_
                refine At.ret1 rfl rfl ?_
                first
                  | exact ⟨_, rfl, notD (fun h => by have := h.1; unfold mayA at this; omega), hf1⟩
                  | exact ⟨_, rfl, notD (fun h => by have := h.1; unfold mayA at this; omega), hf1.draws 1⟩
                  | exact ⟨_, rfl, yesD ⟨by unfold mayA; omega, fun h3 => by omega⟩, hf1⟩
                  | exact ⟨_, rfl, yesD ⟨by unfold mayA; omega, fun h3 => by omega⟩, hf1.draws 1⟩
                  | exact ⟨_, rfl, notD (fun h => h.2 (by omega) hnul), hf1⟩
                  | exact ⟨_, rfl, yesD ⟨by unfold mayA; omega, fun h3 h0 => by obtain ⟨i, hi, e⟩ := List.getElem_of_mem h0; exact hgood i (by omega) (by simp [List.getD, hi, e])⟩, hf1⟩
              ·
                refine Sl.calm (Cm.pick_f rfl rfl) rfl ?_
                refine Sl.calm (Cm.move rfl) rfl ?_
                refine Sl.want rfl rfl (Cm.field fld33_4 rfl) rfl ?_
                refine Sl.want rfl rfl (Cm.ld sca3 rfl (cellF hg1 rfl)) rfl ?_
                refine Sl.forkWant rfl rfl (Cm.gtr rfl rfl) rfl (fun h40 => ?_) (fun h40 => ?_)
                ·
                  refine Sl.calm (Cm.pick_f rfl rfl) rfl ?_
                  refine Sl.calm (Cm.move rfl) rfl ?_
                  refine Sl.skip rfl rfl rfl rfl ?_
                  refine Sl.skip rfl rfl rfl rfl ?_
                  refine Sl.skip rfl rfl rfl rfl ?_
                  refine Sl.calm (Cm.pick_t rfl rfl) rfl ?_
                  refine Sl.calm (Cm.move rfl) rfl ?_
                  refine Sl.skip rfl rfl rfl rfl ?_
                  refine Sl.skip rfl rfl rfl rfl ?_
                  refine Sl.skip rfl rfl rfl rfl ?_
                  refine Sl.calm (Cm.pick_t rfl rfl) rfl ?_
                  refine Sl.nil ?_
                  refine At.weak [(0, _), (1, _), (2, _), (51, _)] ⟨rfl, rfl, rfl, rfl, trivial⟩ ?_
                  refine At.go ?_
                  refine Sc.cond_t rfl ?_
                  refine Sc.seq ?_
                  refine Sc.region ?_
                  refine Sl.calm (Cm.assign rfl) rfl ?_
                  refine Sl.nil ?_
                  refine At.go ?_
                  refine Sc.ret ?_
                  refine At.then_ret ?_
                  refine At.ret1 rfl rfl ?_
                  first
                    | exact ⟨_, rfl, notD (fun h => by have := h.1; unfold mayA at this; omega), hf1⟩
                    | exact ⟨_, rfl, notD (fun h => by have := h.1; unfold mayA at this; omega), hf1.draws 1⟩
                    | exact ⟨_, rfl, yesD ⟨by unfold mayA; omega, fun h3 => by omega⟩, hf1⟩
                    | exact ⟨_, rfl, yesD ⟨by unfold mayA; omega, fun h3 => by omega⟩, hf1.draws 1⟩
                    | exact ⟨_, rfl, notD (fun h => h.2 (by omega) hnul), hf1⟩
                    | exact ⟨_, rfl, yesD ⟨by unfold mayA; omega, fun h3 h0 => by obtain ⟨i, hi, e⟩ := List.getElem_of_mem h0; exact hgood i (by omega) (by simp [List.getD, hi, e])⟩, hf1⟩
                ·
                  refine Sl.calm (Cm.pick_f rfl rfl) rfl ?_
                  refine Sl.calm (Cm.move rfl) rfl ?_
                  refine Sl.want rfl rfl (Cm.field fld33_5 rfl) rfl ?_
                  refine Sl.want rfl rfl (Cm.ld sca3 rfl (cellF hg1 rfl)) rfl ?_
                  refine Sl.forkWant rfl rfl (Cm.lss rfl rfl) rfl (fun h45 => ?_) (fun h45 => ?_)
                  ·
                    refine Sl.calm (Cm.pick_f rfl rfl) rfl ?_
                    refine Sl.calm (Cm.move rfl) rfl ?_
                    refine Sl.skip rfl rfl rfl rfl ?_
                    refine Sl.skip rfl rfl rfl rfl ?_
                    refine Sl.skip rfl rfl rfl rfl ?_
                    refine Sl.calm (Cm.pick_t rfl rfl) rfl ?_
                    refine Sl.nil ?_
                    refine At.weak [(0, _), (1, _), (2, _), (51, _)] ⟨rfl, rfl, rfl, rfl, trivial⟩ ?_
                    refine At.go ?_
                    refine Sc.cond_t rfl ?_
                    refine Sc.seq ?_
                    refine Sc.region ?_
                    refine Sl.calm (Cm.assign rfl) rfl ?_
                    refine Sl.nil ?_
                    refine At.go ?_
                    refine Sc.ret ?_
                    refine At.then_ret ?_
                    refine At.ret1 rfl rfl ?_
                    first
                      | exact ⟨_, rfl, notD (fun h => by have := h.1; unfold mayA at this; omega), hf1⟩
                      | exact ⟨_, rfl, notD (fun h => by have := h.1; unfold mayA at this; omega), hf1.draws 1⟩
                      | exact ⟨_, rfl, yesD ⟨by unfold mayA; omega, fun h3 => by omega⟩, hf1⟩
                      | exact ⟨_, rfl, yesD ⟨by unfold mayA; omega, fun h3 => by omega⟩, hf1.draws 1⟩
                      | exact ⟨_, rfl, notD (fun h => h.2 (by omega) hnul), hf1⟩
                      | exact ⟨_, rfl, yesD ⟨by unfold mayA; omega, fun h3 h0 => by obtain ⟨i, hi, e⟩ := List.getElem_of_mem h0; exact hgood i (by omega) (by simp [List.getD, hi, e])⟩, hf1⟩
                  ·
                    refine Sl.calm (Cm.pick_f rfl rfl) rfl ?_
                    refine Sl.calm (Cm.move rfl) rfl ?_
                    refine Sl.want rfl rfl (Cm.field fld33_5 rfl) rfl ?_
                    refine Sl.want rfl rfl (Cm.ld sca3 rfl (cellF hg1 rfl)) rfl ?_
                    refine Sl.forkWant rfl rfl (Cm.gtr rfl rfl) rfl (fun h50 => ?_) (fun h50 => ?_)
                    ·
                      refine Sl.calm (Cm.pick_f rfl rfl) rfl ?_
                      refine Sl.nil ?_
                      refine At.weak [(0, _), (1, _), (2, _), (51, _)] ⟨rfl, rfl, rfl, rfl, trivial⟩ ?_
                      refine At.go ?_
                      refine Sc.cond_t rfl ?_
                      refine Sc.seq ?_
                      refine Sc.region ?_
                      refine Sl.calm (Cm.assign rfl) rfl ?_
                      refine Sl.nil ?_
                      refine At.go ?_
                      refine Sc.ret ?_
                      refine At.then_ret ?_
                      refine At.ret1 rfl rfl ?_
                      first
                        | exact ⟨_, rfl, notD (fun h => by have := h.1; unfold mayA at this; omega), hf1⟩
                        | exact ⟨_, rfl, notD (fun h => by have := h.1; unfold mayA at this; omega), hf1.draws 1⟩
                        | exact ⟨_, rfl, yesD ⟨by unfold mayA; omega, fun h3 => by omega⟩, hf1⟩
                        | exact ⟨_, rfl, yesD ⟨by unfold mayA; omega, fun h3 => by omega⟩, hf1.draws 1⟩
                        | exact ⟨_, rfl, notD (fun h => h.2 (by omega) hnul), hf1⟩
                        | exact ⟨_, rfl, yesD ⟨by unfold mayA; omega, fun h3 h0 => by obtain ⟨i, hi, e⟩ := List.getElem_of_mem h0; exact hgood i (by omega) (by simp [List.getD, hi, e])⟩, hf1⟩
                    ·
                      refine Sl.calm (Cm.pick_f rfl rfl) rfl ?_
                      refine Sl.nil ?_
                      refine At.weak [(0, _), (1, _), (2, _), (51, _)] ⟨rfl, rfl, rfl, rfl, trivial⟩ ?_
                      refine At.go ?_
                      refine Sc.cond_f rfl ?_
                      refine Sc.skip ?_
                      refine At.go ?_
                      refine Sc.seq ?_
                      refine Sc.seq ?_
                      refine Sc.region ?_
                      refine Sl.calm (Cm.field fld33_0 rfl) rfl ?_
                      refine Sl.calm (Cm.ld sca3 rfl (cellF hg1 rfl)) rfl ?_
                      refine Sl.nil ?_
                      refine At.weak [(0, _), (1, _), (2, _), (51, _), (53, _)] ⟨rfl, rfl, rfl, rfl, rfl, trivial⟩ ?_
                      refine At.go ?_
                      refine Sc.block ?_
                      refine Sc.seq ?_
                      refine Sc.region ?_
                      refine Sl.fork (Cm.eql rfl rfl) rfl (fun h55 => ?_) (fun h55 => ?_)
                      ·
                        refine Sl.calm (Cm.assign rfl) rfl ?_
                        refine Sl.nil ?_
                        refine At.weak [(0, _), (1, _), (2, _), (51, _), (53, _), (54, _)] ⟨rfl, rfl, rfl, rfl, rfl, rfl, trivial⟩ ?_
                        refine At.go ?_
                        refine Sc.cond_t rfl ?_
                        refine Sc.seq ?_
                        refine Sc.seq ?_
                        refine Sc.region ?_
                        refine Sl.calm (Cm.field fld33_7 rfl) rfl ?_
                        refine Sl.calm (Cm.ld sca3 rfl (cellF hg1 rfl)) rfl ?_
                        refine Sl.fork (Cm.lss rfl rfl) rfl (fun h58 => ?_) (fun h58 => ?_)
                        ·
                          refine Sl.calm (Cm.move rfl) rfl ?_
                          refine Sl.skip rfl rfl rfl rfl ?_
                          refine Sl.skip rfl rfl rfl rfl ?_
                          refine Sl.skip rfl rfl rfl rfl ?_
                          refine Sl.calm (Cm.pick_t rfl rfl) rfl ?_
                          refine Sl.calm (Cm.move rfl) rfl ?_
                          refine Sl.skip rfl rfl rfl rfl ?_
                          refine Sl.skip rfl rfl rfl rfl ?_
                          refine Sl.skip rfl rfl rfl rfl ?_
                          refine Sl.calm (Cm.pick_t rfl rfl) rfl ?_
                          refine Sl.calm (Cm.move rfl) rfl ?_
                          refine Sl.skip rfl rfl rfl rfl ?_
                          refine Sl.skip rfl rfl rfl rfl ?_
                          refine Sl.skip rfl rfl rfl rfl ?_
                          refine Sl.calm (Cm.pick_t rfl rfl) rfl ?_
                          refine Sl.calm (Cm.move rfl) rfl ?_
                          refine Sl.skip rfl rfl rfl rfl ?_
                          refine Sl.skip rfl rfl rfl rfl ?_
                          refine Sl.skip rfl rfl rfl rfl ?_
                          refine Sl.skip rfl rfl rfl rfl ?_
                          refine Sl.skip rfl rfl rfl rfl ?_
                          refine Sl.skip rfl rfl rfl rfl ?_
                          refine Sl.skip rfl rfl rfl rfl ?_
                          refine Sl.skip rfl rfl rfl rfl ?_
                          refine Sl.calm (Cm.pick_t rfl rfl) rfl ?_
                          refine Sl.nil ?_
                          refine At.weak [(0, _), (1, _), (2, _), (51, _), (53, _), (54, _), (83, _)] ⟨rfl, rfl, rfl, rfl, rfl, rfl, rfl, trivial⟩ ?_
                          refine At.go ?_
                          refine Sc.cond_t rfl ?_
                          refine Sc.seq ?_
                          refine Sc.region ?_
                          refine Sl.calm (Cm.assign rfl) rfl ?_
                          refine Sl.nil ?_
                          refine At.go ?_
                          refine Sc.ret ?_
                          refine At.then_ret ?_
                          refine At.block_ret ?_
                          refine At.then_ret ?_
                          refine At.ret1 rfl rfl ?_
                          first
                            | exact ⟨_, rfl, notD (fun h => by have := h.1; unfold mayA at this; omega), hf1⟩
                            | exact ⟨_, rfl, notD (fun h => by have := h.1; unfold mayA at this; omega), hf1.draws 1⟩
                            | exact ⟨_, rfl, yesD ⟨by unfold mayA; omega, fun h3 => by omega⟩, hf1⟩
                            | exact ⟨_, rfl, yesD ⟨by unfold mayA; omega, fun h3 => by omega⟩, hf1.draws 1⟩
                            | exact ⟨_, rfl, notD (fun h => h.2 (by omega) hnul), hf1⟩
                            | exact ⟨_, rfl, yesD ⟨by unfold mayA; omega, fun h3 h0 => by obtain ⟨i, hi, e⟩ := List.getElem_of_mem h0; exact hgood i (by omega) (by simp [List.getD, hi, e])⟩, hf1⟩
                        ·
                          refine Sl.calm (Cm.move rfl) rfl ?_
                          refine Sl.want rfl rfl (Cm.field fld33_7 rfl) rfl ?_
                          refine Sl.want rfl rfl (Cm.ld sca3 rfl (cellF hg1 rfl)) rfl ?_
                          refine Sl.forkWant rfl rfl (Cm.gtr rfl rfl) rfl (fun h62 => ?_) (fun h62 => ?_)
                          ·
                            refine Sl.calm (Cm.pick_f rfl rfl) rfl ?_
                            refine Sl.calm (Cm.move rfl) rfl ?_
                            refine Sl.skip rfl rfl rfl rfl ?_
                            refine Sl.skip rfl rfl rfl rfl ?_
                            refine Sl.skip rfl rfl rfl rfl ?_
                            refine Sl.calm (Cm.pick_t rfl rfl) rfl ?_
                            refine Sl.calm (Cm.move rfl) rfl ?_
                            refine Sl.skip rfl rfl rfl rfl ?_
                            refine Sl.skip rfl rfl rfl rfl ?_
                            refine Sl.skip rfl rfl rfl rfl ?_
                            refine Sl.calm (Cm.pick_t rfl rfl) rfl ?_
                            refine Sl.calm (Cm.move rfl) rfl ?_
                            refine Sl.skip rfl rfl rfl rfl ?_
                            refine Sl.skip rfl rfl rfl rfl ?_
                            refine Sl.skip rfl rfl rfl rfl ?_
                            refine Sl.skip rfl rfl rfl rfl ?_
                            refine Sl.skip rfl rfl rfl rfl ?_
                            refine Sl.skip rfl rfl rfl rfl ?_
                            refine Sl.skip rfl rfl rfl rfl ?_
                            refine Sl.skip rfl rfl rfl rfl ?_
                            refine Sl.calm (Cm.pick_t rfl rfl) rfl ?_
                            refine Sl.nil ?_
                            refine At.weak [(0, _), (1, _), (2, _), (51, _), (53, _), (54, _), (83, _)] ⟨rfl, rfl, rfl, rfl, rfl, rfl, rfl, trivial⟩ ?_
                            refine At.go ?_
                            refine Sc.cond_t rfl ?_
                            refine Sc.seq ?_
                            refine Sc.region ?_
                            refine Sl.calm (Cm.assign rfl) rfl ?_
                            refine Sl.nil ?_
                            refine At.go ?_
                            refine Sc.ret ?_
                            refine At.then_ret ?_
                            refine At.block_ret ?_
                            refine At.then_ret ?_
                            refine At.ret1 rfl rfl ?_
                            first
                              | exact ⟨_, rfl, notD (fun h => by have := h.1; unfold mayA at this; omega), hf1⟩
                              | exact ⟨_, rfl, notD (fun h => by have := h.1; unfold mayA at this; omega), hf1.draws 1⟩
                              | exact ⟨_, rfl, yesD ⟨by unfold mayA; omega, fun h3 => by omega⟩, hf1⟩
                              | exact ⟨_, rfl, yesD ⟨by unfold mayA; omega, fun h3 => by omega⟩, hf1.draws 1⟩
                              | exact ⟨_, rfl, notD (fun h => h.2 (by omega) hnul), hf1⟩
                              | exact ⟨_, rfl, yesD ⟨by unfold mayA; omega, fun h3 h0 => by obtain ⟨i, hi, e⟩ := List.getElem_of_mem h0; exact hgood i (by omega) (by simp [List.getD, hi, e])⟩, hf1⟩
                          ·
                            refine Sl.calm (Cm.pick_f rfl rfl) rfl ?_
                            refine Sl.calm (Cm.move rfl) rfl ?_
                            refine Sl.want rfl rfl (Cm.field fld33_8 rfl) rfl ?_
                            refine Sl.want rfl rfl (Cm.ld sca3 rfl (cellF hg1 rfl)) rfl ?_
                            refine Sl.forkWant rfl rfl (Cm.lss rfl rfl) rfl (fun h67 => ?_) (fun h67 => ?_)
                            ·
                              refine Sl.calm (Cm.pick_f rfl rfl) rfl ?_
                              refine Sl.calm (Cm.move rfl) rfl ?_
                              refine Sl.skip rfl rfl rfl rfl ?_
                              refine Sl.skip rfl rfl rfl rfl ?_
                              refine Sl.skip rfl rfl rfl rfl ?_
                              refine Sl.calm (Cm.pick_t rfl rfl) rfl ?_
                              refine Sl.calm (Cm.move rfl) rfl ?_
                              refine Sl.skip rfl rfl rfl rfl ?_
                              refine Sl.skip rfl rfl rfl rfl ?_
                              refine Sl.skip rfl rfl rfl rfl ?_
                              refine Sl.skip rfl rfl rfl rfl ?_
                              refine Sl.skip rfl rfl rfl rfl ?_
                              refine Sl.skip rfl rfl rfl rfl ?_
                              refine Sl.skip rfl rfl rfl rfl ?_
                              refine Sl.skip rfl rfl rfl rfl ?_
                              refine Sl.calm (Cm.pick_t rfl rfl) rfl ?_
                              refine Sl.nil ?_
                              refine At.weak [(0, _), (1, _), (2, _), (51, _), (53, _), (54, _), (83, _)] ⟨rfl, rfl, rfl, rfl, rfl, rfl, rfl, trivial⟩ ?_
                              refine At.go ?_
                              refine Sc.cond_t rfl ?_
                              refine Sc.seq ?_
                              refine Sc.region ?_
                              refine Sl.calm (Cm.assign rfl) rfl ?_
                              refine Sl.nil ?_
                              refine At.go ?_
                              refine Sc.ret ?_
                              refine At.then_ret ?_
                              refine At.block_ret ?_
                              refine At.then_ret ?_
                              refine At.ret1 rfl rfl ?_
                              first
                                | exact ⟨_, rfl, notD (fun h => by have := h.1; unfold mayA at this; omega), hf1⟩
                                | exact ⟨_, rfl, notD (fun h => by have := h.1; unfold mayA at this; omega), hf1.draws 1⟩
                                | exact ⟨_, rfl, yesD ⟨by unfold mayA; omega, fun h3 => by omega⟩, hf1⟩
                                | exact ⟨_, rfl, yesD ⟨by unfold mayA; omega, fun h3 => by omega⟩, hf1.draws 1⟩
                                | exact ⟨_, rfl, notD (fun h => h.2 (by omega) hnul), hf1⟩
                                | exact ⟨_, rfl, yesD ⟨by unfold mayA; omega, fun h3 h0 => by obtain ⟨i, hi, e⟩ := List.getElem_of_mem h0; exact hgood i (by omega) (by simp [List.getD, hi, e])⟩, hf1⟩
                            ·
                              refine Sl.calm (Cm.pick_f rfl rfl) rfl ?_
                              refine Sl.calm (Cm.move rfl) rfl ?_
                              refine Sl.want rfl rfl (Cm.field fld33_8 rfl) rfl ?_
                              refine Sl.want rfl rfl (Cm.ld sca3 rfl (cellF hg1 rfl)) rfl ?_
                              refine Sl.forkWant rfl rfl (Cm.gtr rfl rfl) rfl (fun h72 => ?_) (fun h72 => ?_)
                              ·
                                refine Sl.calm (Cm.pick_f rfl rfl) rfl ?_
                                refine Sl.calm (Cm.move rfl) rfl ?_
                                refine Sl.skip rfl rfl rfl rfl ?_
                                refine Sl.skip rfl rfl rfl rfl ?_
                                refine Sl.skip rfl rfl rfl rfl ?_
                                refine Sl.skip rfl rfl rfl rfl ?_
                                refine Sl.skip rfl rfl rfl rfl ?_
                                refine Sl.skip rfl rfl rfl rfl ?_
                                refine Sl.skip rfl rfl rfl rfl ?_
                                refine Sl.skip rfl rfl rfl rfl ?_
                                refine Sl.calm (Cm.pick_t rfl rfl) rfl ?_
                                refine Sl.nil ?_
                                refine At.weak [(0, _), (1, _), (2, _), (51, _), (53, _), (54, _), (83, _)] ⟨rfl, rfl, rfl, rfl, rfl, rfl, rfl, trivial⟩ ?_
                                refine At.go ?_
                                refine Sc.cond_t rfl ?_
                                refine Sc.seq ?_
                                refine Sc.region ?_
                                refine Sl.calm (Cm.assign rfl) rfl ?_
                                refine Sl.nil ?_
                                refine At.go ?_
                                refine Sc.ret ?_
                                refine At.then_ret ?_
                                refine At.block_ret ?_
                                refine At.then_ret ?_
                                refine At.ret1 rfl rfl ?_
                                first
                                  | exact ⟨_, rfl, notD (fun h => by have := h.1; unfold mayA at this; omega), hf1⟩
                                  | exact ⟨_, rfl, notD (fun h => by have := h.1; unfold mayA at this; omega), hf1.draws 1⟩
                                  | exact ⟨_, rfl, yesD ⟨by unfold mayA; omega, fun h3 => by omega⟩, hf1⟩
                                  | exact ⟨_, rfl, yesD ⟨by unfold mayA; omega, fun h3 => by omega⟩, hf1.draws 1⟩
                                  | exact ⟨_, rfl, notD (fun h => h.2 (by omega) hnul), hf1⟩
                                  | exact ⟨_, rfl, yesD ⟨by unfold mayA; omega, fun h3 h0 => by obtain ⟨i, hi, e⟩ := List.getElem_of_mem h0; exact hgood i (by omega) (by simp [List.getD, hi, e])⟩, hf1⟩
                              ·
                                refine Sl.calm (Cm.pick_f rfl rfl) rfl ?_
                                refine Sl.calm (Cm.move rfl) rfl ?_
                                refine Sl.want rfl rfl (Cm.field fld33_8 rfl) rfl ?_
                                refine Sl.want rfl rfl (Cm.ld sca3 rfl (cellF hg1 rfl)) rfl ?_
                                refine Sl.forkWant rfl rfl (Cm.gtr rfl rfl) rfl (fun h77 => ?_) (fun h77 => ?_)
                                ·
                                  refine Sl.want rfl rfl (Cm.field fld33_7 rfl) rfl ?_
                                  refine Sl.want rfl rfl (Cm.ld sca3 rfl (cellF hg1 rfl)) rfl ?_
                                  refine Sl.want rfl rfl (Cm.rem64 rfl rfl (by omega) (by decide)) rfl ?_
                                  refine Sl.forkWant rfl rfl (Cm.gtr rfl rfl) rfl (fun h81 => ?_) (fun h81 => ?_)
                                  ·
                                    refine Sl.want rfl rfl (Cm.neqBool ty4 rfl rfl) rfl ?_
                                    refine Sl.calm (Cm.pick_f rfl rfl) rfl ?_
                                    refine Sl.nil ?_
                                    refine At.weak [(0, _), (1, _), (2, _), (51, _), (53, _), (54, _), (83, _)] ⟨rfl, rfl, rfl, rfl, rfl, rfl, rfl, trivial⟩ ?_
                                    refine At.go ?_
                                    refine Sc.cond_f rfl ?_
                                    refine Sc.skip ?_
                                    refine At.go ?_
                                    refine Sc.seq ?_
                                    refine Sc.region ?_
                                    refine Sl.calm (Cm.field fld33_6 rfl) rfl ?_
                                    refine Sl.calm (Cm.ld sca3 rfl (cellF hg1 rfl)) rfl ?_
                                    refine Sl.fork (Cm.geq rfl rfl) rfl (fun h86 => ?_) (fun h86 => ?_)
                                    ·
                                      refine Sl.calm (Cm.move rfl) rfl ?_
                                      refine Sl.want rfl rfl (Cm.field fld33_6 rfl) rfl ?_
                                      refine Sl.want rfl rfl (Cm.ld sca3 rfl (cellF hg1 rfl)) rfl ?_
                                      refine Sl.forkWant rfl rfl (Cm.leq rfl rfl) rfl (fun h90 => ?_) (fun h90 => ?_)
                                      ·
                                        refine Sl.calm (Cm.pick_t rfl rfl) rfl ?_
                                        refine Sl.calm (Cm.move rfl) rfl ?_
                                        refine Sl.want rfl rfl (Cm.field fld33_9 rfl) rfl ?_
                                        refine Sl.want rfl rfl (Cm.ld sca3 rfl (cellF hg1 rfl)) rfl ?_
                                        refine Sl.forkWant rfl rfl (Cm.geq rfl rfl) rfl (fun h95 => ?_) (fun h95 => ?_)
                                        ·
                                          refine Sl.calm (Cm.pick_t rfl rfl) rfl ?_
                                          refine Sl.calm (Cm.move rfl) rfl ?_
                                          refine Sl.want rfl rfl (Cm.field fld33_9 rfl) rfl ?_
                                          refine Sl.want rfl rfl (Cm.ld sca3 rfl (cellF hg1 rfl)) rfl ?_
                                          refine Sl.forkWant rfl rfl (Cm.lss rfl rfl) rfl (fun h100 => ?_) (fun h100 => ?_)
                                          ·
                                            refine Sl.calm (Cm.pick_t rfl rfl) rfl ?_
                                            refine Sl.calm (Cm.move rfl) rfl ?_
                                            refine Sl.want rfl rfl (Cm.field fld33_8 rfl) rfl ?_
                                            refine Sl.want rfl rfl (Cm.ld sca3 rfl (cellF hg1 rfl)) rfl ?_
                                            refine Sl.forkWant rfl rfl (Cm.gtr rfl rfl) rfl (fun h105 => ?_) (fun h105 => ?_)
                                            ·
                                              refine Sl.want rfl rfl (Cm.move rfl) rfl ?_
                                              refine Sl.skip rfl rfl rfl rfl ?_
                                              refine Sl.skip rfl rfl rfl rfl ?_
                                              refine Sl.skip rfl rfl rfl rfl ?_
                                              refine Sl.want rfl rfl (Cm.pick_t rfl rfl) rfl ?_
                                              refine Sl.calm (Cm.pick_t rfl rfl) rfl ?_
                                              refine Sl.calm (Cm.move rfl) rfl ?_
                                              refine Sl.want rfl rfl (Cm.field fld33_10 rfl) rfl ?_
                                              refine Sl.want rfl rfl (Cm.ld sca9 rfl (cellF hg1 rfl)) rfl ?_
                                              refine Sl.forkWant rfl rfl (Cm.eqlBs rfl rfl) rfl (fun h115 => ?_) (fun h115 => ?_)
                                              ·
                                                have hT0 : T.length = 0 := by rw [h115]; rfl
                                                refine Sl.calm (Cm.pick_t rfl rfl) rfl ?_
                                                refine Sl.calm (Cm.assign rfl) rfl ?_
                                                refine Sl.nil ?_
                                                refine At.weak [(0, _), (1, _), (2, _), (51, _), (53, _), (54, _), (83, _)] ⟨rfl, rfl, rfl, rfl, rfl, rfl, rfl, trivial⟩ ?_
                                                refine At.go ?_
                                                refine Sc.ret ?_
                                                refine At.block_ret ?_
                                                refine At.then_ret ?_
                                                refine At.ret1 rfl rfl ?_
                                                first
                                                  | exact ⟨_, rfl, notD (fun h => by have := h.1; unfold mayA at this; omega), hf1⟩
                                                  | exact ⟨_, rfl, notD (fun h => by have := h.1; unfold mayA at this; omega), hf1.draws 1⟩
                                                  | exact ⟨_, rfl, yesD ⟨by unfold mayA; omega, fun h3 => by omega⟩, hf1⟩
                                                  | exact ⟨_, rfl, yesD ⟨by unfold mayA; omega, fun h3 => by omega⟩, hf1.draws 1⟩
                                                  | exact ⟨_, rfl, notD (fun h => h.2 (by omega) hnul), hf1⟩
                                                  | exact ⟨_, rfl, yesD ⟨by unfold mayA; omega, fun h3 h0 => by obtain ⟨i, hi, e⟩ := List.getElem_of_mem h0; exact hgood i (by omega) (by simp [List.getD, hi, e])⟩, hf1⟩
                                              ·
                                                have hT0 : T.length ≠ 0 := fun e => h115 (List.eq_nil_of_length_eq_zero e)
                                                refine Sl.calm (Cm.pick_t rfl rfl) rfl ?_
                                                refine Sl.calm (Cm.assign rfl) rfl ?_
                                                refine Sl.nil ?_
                                                refine At.weak [(0, _), (1, _), (2, _), (51, _), (53, _), (54, _), (83, _)] ⟨rfl, rfl, rfl, rfl, rfl, rfl, rfl, trivial⟩ ?_
                                                refine At.go ?_
                                                refine Sc.ret ?_
                                                refine At.block_ret ?_
                                                refine At.then_ret ?_
                                                refine At.ret1 rfl rfl ?_
                                                first
                                                  | exact ⟨_, rfl, notD (fun h => by have := h.1; unfold mayA at this; omega), hf1⟩
                                                  | exact ⟨_, rfl, notD (fun h => by have := h.1; unfold mayA at this; omega), hf1.draws 1⟩
                                                  | exact ⟨_, rfl, yesD ⟨by unfold mayA; omega, fun h3 => by omega⟩, hf1⟩
                                                  | exact ⟨_, rfl, yesD ⟨by unfold mayA; omega, fun h3 => by omega⟩, hf1.draws 1⟩
                                                  | exact ⟨_, rfl, notD (fun h => h.2 (by omega) hnul), hf1⟩
                                                  | exact ⟨_, rfl, yesD ⟨by unfold mayA; omega, fun h3 h0 => by obtain ⟨i, hi, e⟩ := List.getElem_of_mem h0; exact hgood i (by omega) (by simp [List.getD, hi, e])⟩, hf1⟩
                                            ·
                                              refine Sl.want rfl rfl (Cm.move rfl) rfl ?_
                                              refine Sl.want rfl rfl (Cm.field fld33_9 rfl) rfl ?_
                                              refine Sl.want rfl rfl (Cm.ld sca3 rfl (cellF hg1 rfl)) rfl ?_
                                              refine Sl.forkWant rfl rfl (Cm.eql rfl rfl) rfl (fun h109 => ?_) (fun h109 => ?_)
                                              ·
                                                refine Sl.want rfl rfl (Cm.pick_f rfl rfl) rfl ?_
                                                refine Sl.calm (Cm.pick_t rfl rfl) rfl ?_
                                                refine Sl.calm (Cm.move rfl) rfl ?_
                                                refine Sl.want rfl rfl (Cm.field fld33_10 rfl) rfl ?_
                                                refine Sl.want rfl rfl (Cm.ld sca9 rfl (cellF hg1 rfl)) rfl ?_
                                                refine Sl.forkWant rfl rfl (Cm.eqlBs rfl rfl) rfl (fun h115 => ?_) (fun h115 => ?_)
                                                ·
                                                  have hT0 : T.length = 0 := by rw [h115]; rfl
                                                  refine Sl.calm (Cm.pick_t rfl rfl) rfl ?_
                                                  refine Sl.calm (Cm.assign rfl) rfl ?_
                                                  refine Sl.nil ?_
                                                  refine At.weak [(0, _), (1, _), (2, _), (51, _), (53, _), (54, _), (83, _)] ⟨rfl, rfl, rfl, rfl, rfl, rfl, rfl, trivial⟩ ?_
                                                  refine At.go ?_
                                                  refine Sc.ret ?_
                                                  refine At.block_ret ?_
                                                  refine At.then_ret ?_
                                                  refine At.ret1 rfl rfl ?_
                                                  first
                                                    | exact ⟨_, rfl, notD (fun h => by have := h.1; unfold mayA at this; omega), hf1⟩
                                                    | exact ⟨_, rfl, notD (fun h => by have := h.1; unfold mayA at this; omega), hf1.draws 1⟩
                                                    | exact ⟨_, rfl, yesD ⟨by unfold mayA; omega, fun h3 => by omega⟩, hf1⟩
                                                    | exact ⟨_, rfl, yesD ⟨by unfold mayA; omega, fun h3 => by omega⟩, hf1.draws 1⟩
                                                    | exact ⟨_, rfl, notD (fun h => h.2 (by omega) hnul), hf1⟩
                                                    | exact ⟨_, rfl, yesD ⟨by unfold mayA; omega, fun h3 h0 => by obtain ⟨i, hi, e⟩ := List.getElem_of_mem h0; exact hgood i (by omega) (by simp [List.getD, hi, e])⟩, hf1⟩
                                                ·
                                                  have hT0 : T.length ≠ 0 := fun e => h115 (List.eq_nil_of_length_eq_zero e)
                                                  refine Sl.calm (Cm.pick_t rfl rfl) rfl ?_
                                                  refine Sl.calm (Cm.assign rfl) rfl ?_
                                                  refine Sl.nil ?_
                                                  refine At.weak [(0, _), (1, _), (2, _), (51, _), (53, _), (54, _), (83, _)] ⟨rfl, rfl, rfl, rfl, rfl, rfl, rfl, trivial⟩ ?_
                                                  refine At.go ?_
                                                  refine Sc.ret ?_
                                                  refine At.block_ret ?_
                                                  refine At.then_ret ?_
                                                  refine At.ret1 rfl rfl ?_
                                                  first
                                                    | exact ⟨_, rfl, notD (fun h => by have := h.1; unfold mayA at this; omega), hf1⟩
                                                    | exact ⟨_, rfl, notD (fun h => by have := h.1; unfold mayA at this; omega), hf1.draws 1⟩
                                                    | exact ⟨_, rfl, yesD ⟨by unfold mayA; omega, fun h3 => by omega⟩, hf1⟩
                                                    | exact ⟨_, rfl, yesD ⟨by unfold mayA; omega, fun h3 => by omega⟩, hf1.draws 1⟩
                                                    | exact ⟨_, rfl, notD (fun h => h.2 (by omega) hnul), hf1⟩
                                                    | exact ⟨_, rfl, yesD ⟨by unfold mayA; omega, fun h3 h0 => by obtain ⟨i, hi, e⟩ := List.getElem_of_mem h0; exact hgood i (by omega) (by simp [List.getD, hi, e])⟩, hf1⟩
                                              ·
                                                refine Sl.want rfl rfl (Cm.pick_f rfl rfl) rfl ?_
                                                refine Sl.calm (Cm.pick_t rfl rfl) rfl ?_
                                                refine Sl.calm (Cm.move rfl) rfl ?_
                                                refine Sl.skip rfl rfl rfl rfl ?_
                                                refine Sl.skip rfl rfl rfl rfl ?_
                                                refine Sl.skip rfl rfl rfl rfl ?_
                                                refine Sl.calm (Cm.pick_f rfl rfl) rfl ?_
                                                refine Sl.calm (Cm.assign rfl) rfl ?_
                                                refine Sl.nil ?_
                                                refine At.weak [(0, _), (1, _), (2, _), (51, _), (53, _), (54, _), (83, _)] ⟨rfl, rfl, rfl, rfl, rfl, rfl, rfl, trivial⟩ ?_
                                                refine At.go ?_
                                                refine Sc.ret ?_
                                                refine At.block_ret ?_
                                                refine At.then_ret ?_
                                                refine At.ret1 rfl rfl ?_
                                                first
                                                  | exact ⟨_, rfl, notD (fun h => by have := h.1; unfold mayA at this; omega), hf1⟩
                                                  | exact ⟨_, rfl, notD (fun h => by have := h.1; unfold mayA at this; omega), hf1.draws 1⟩
                                                  | exact ⟨_, rfl, yesD ⟨by unfold mayA; omega, fun h3 => by omega⟩, hf1⟩
                                                  | exact ⟨_, rfl, yesD ⟨by unfold mayA; omega, fun h3 => by omega⟩, hf1.draws 1⟩
                                                  | exact ⟨_, rfl, notD (fun h => h.2 (by omega) hnul), hf1⟩
                                                  | exact ⟨_, rfl, yesD ⟨by unfold mayA; omega, fun h3 h0 => by obtain ⟨i, hi, e⟩ := List.getElem_of_mem h0; exact hgood i (by omega) (by simp [List.getD, hi, e])⟩, hf1⟩
                                          ·
                                            refine Sl.calm (Cm.pick_t rfl rfl) rfl ?_
                                            refine Sl.calm (Cm.move rfl) rfl ?_
                                            refine Sl.skip rfl rfl rfl rfl ?_
                                            refine Sl.skip rfl rfl rfl rfl ?_
                                            refine Sl.skip rfl rfl rfl rfl ?_
                                            refine Sl.skip rfl rfl rfl rfl ?_
                                            refine Sl.skip rfl rfl rfl rfl ?_
                                            refine Sl.skip rfl rfl rfl rfl ?_
                                            refine Sl.skip rfl rfl rfl rfl ?_
                                            refine Sl.skip rfl rfl rfl rfl ?_
                                            refine Sl.calm (Cm.pick_f rfl rfl) rfl ?_
                                            refine Sl.calm (Cm.move rfl) rfl ?_
                                            refine Sl.skip rfl rfl rfl rfl ?_
                                            refine Sl.skip rfl rfl rfl rfl ?_
                                            refine Sl.skip rfl rfl rfl rfl ?_
                                            refine Sl.calm (Cm.pick_f rfl rfl) rfl ?_
                                            refine Sl.calm (Cm.assign rfl) rfl ?_
                                            refine Sl.nil ?_
                                            refine At.weak [(0, _), (1, _), (2, _), (51, _), (53, _), (54, _), (83, _)] ⟨rfl, rfl, rfl, rfl, rfl, rfl, rfl, trivial⟩ ?_
                                            refine At.go ?_
                                            refine Sc.ret ?_
                                            refine At.block_ret ?_
                                            refine At.then_ret ?_
                                            refine At.ret1 rfl rfl ?_
                                            first
                                              | exact ⟨_, rfl, notD (fun h => by have := h.1; unfold mayA at this; omega), hf1⟩
                                              | exact ⟨_, rfl, notD (fun h => by have := h.1; unfold mayA at this; omega), hf1.draws 1⟩
                                              | exact ⟨_, rfl, yesD ⟨by unfold mayA; omega, fun h3 => by omega⟩, hf1⟩
                                              | exact ⟨_, rfl, yesD ⟨by unfold mayA; omega, fun h3 => by omega⟩, hf1.draws 1⟩
                                              | exact ⟨_, rfl, notD (fun h => h.2 (by omega) hnul), hf1⟩
                                              | exact ⟨_, rfl, yesD ⟨by unfold mayA; omega, fun h3 h0 => by obtain ⟨i, hi, e⟩ := List.getElem_of_mem h0; exact hgood i (by omega) (by simp [List.getD, hi, e])⟩, hf1⟩
                                        ·
                                          refine Sl.calm (Cm.pick_t rfl rfl) rfl ?_
                                          refine Sl.calm (Cm.move rfl) rfl ?_
                                          refine Sl.skip rfl rfl rfl rfl ?_
                                          refine Sl.skip rfl rfl rfl rfl ?_
                                          refine Sl.skip rfl rfl rfl rfl ?_
                                          refine Sl.calm (Cm.pick_f rfl rfl) rfl ?_
                                          refine Sl.calm (Cm.move rfl) rfl ?_
                                          refine Sl.skip rfl rfl rfl rfl ?_
                                          refine Sl.skip rfl rfl rfl rfl ?_
                                          refine Sl.skip rfl rfl rfl rfl ?_
                                          refine Sl.skip rfl rfl rfl rfl ?_
                                          refine Sl.skip rfl rfl rfl rfl ?_
                                          refine Sl.skip rfl rfl rfl rfl ?_
                                          refine Sl.skip rfl rfl rfl rfl ?_
                                          refine Sl.skip rfl rfl rfl rfl ?_
                                          refine Sl.calm (Cm.pick_f rfl rfl) rfl ?_
                                          refine Sl.calm (Cm.move rfl) rfl ?_
                                          refine Sl.skip rfl rfl rfl rfl ?_
                                          refine Sl.skip rfl rfl rfl rfl ?_
                                          refine Sl.skip rfl rfl rfl rfl ?_
                                          refine Sl.calm (Cm.pick_f rfl rfl) rfl ?_
                                          refine Sl.calm (Cm.assign rfl) rfl ?_
                                          refine Sl.nil ?_
                                          refine At.weak [(0, _), (1, _), (2, _), (51, _), (53, _), (54, _), (83, _)] ⟨rfl, rfl, rfl, rfl, rfl, rfl, rfl, trivial⟩ ?_
                                          refine At.go ?_
                                          refine Sc.ret ?_
                                          refine At.block_ret ?_
                                          refine At.then_ret ?_
                                          refine At.ret1 rfl rfl ?_
                                          first
                                            | exact ⟨_, rfl, notD (fun h => by have := h.1; unfold mayA at this; omega), hf1⟩
                                            | exact ⟨_, rfl, notD (fun h => by have := h.1; unfold mayA at this; omega), hf1.draws 1⟩
                                            | exact ⟨_, rfl, yesD ⟨by unfold mayA; omega, fun h3 => by omega⟩, hf1⟩
                                            | exact ⟨_, rfl, yesD ⟨by unfold mayA; omega, fun h3 => by omega⟩, hf1.draws 1⟩
                                            | exact ⟨_, rfl, notD (fun h => h.2 (by omega) hnul), hf1⟩
                                            | exact ⟨_, rfl, yesD ⟨by unfold mayA; omega, fun h3 h0 => by obtain ⟨i, hi, e⟩ := List.getElem_of_mem h0; exact hgood i (by omega) (by simp [List.getD, hi, e])⟩, hf1⟩
                                      ·
                                        refine Sl.calm (Cm.pick_t rfl rfl) rfl ?_
                                        refine Sl.calm (Cm.move rfl) rfl ?_
                                        refine Sl.skip rfl rfl rfl rfl ?_
                                        refine Sl.skip rfl rfl rfl rfl ?_
                                        refine Sl.skip rfl rfl rfl rfl ?_
                                        refine Sl.calm (Cm.pick_f rfl rfl) rfl ?_
                                        refine Sl.calm (Cm.move rfl) rfl ?_
                                        refine Sl.skip rfl rfl rfl rfl ?_
                                        refine Sl.skip rfl rfl rfl rfl ?_
                                        refine Sl.skip rfl rfl rfl rfl ?_
                                        refine Sl.calm (Cm.pick_f rfl rfl) rfl ?_
                                        refine Sl.calm (Cm.move rfl) rfl ?_
                                        refine Sl.skip rfl rfl rfl rfl ?_
                                        refine Sl.skip rfl rfl rfl rfl ?_
                                        refine Sl.skip rfl rfl rfl rfl ?_
                                        refine Sl.skip rfl rfl rfl rfl ?_
                                        refine Sl.skip rfl rfl rfl rfl ?_
                                        refine Sl.skip rfl rfl rfl rfl ?_
                                        refine Sl.skip rfl rfl rfl rfl ?_
                                        refine Sl.skip rfl rfl rfl rfl ?_
                                        refine Sl.calm (Cm.pick_f rfl rfl) rfl ?_
                                        refine Sl.calm (Cm.move rfl) rfl ?_
                                        refine Sl.skip rfl rfl rfl rfl ?_
                                        refine Sl.skip rfl rfl rfl rfl ?_
                                        refine Sl.skip rfl rfl rfl rfl ?_
                                        refine Sl.calm (Cm.pick_f rfl rfl) rfl ?_
                                        refine Sl.calm (Cm.assign rfl) rfl ?_
                                        refine Sl.nil ?_
                                        refine At.weak [(0, _), (1, _), (2, _), (51, _), (53, _), (54, _), (83, _)] ⟨rfl, rfl, rfl, rfl, rfl, rfl, rfl, trivial⟩ ?_
                                        refine At.go ?_
                                        refine Sc.ret ?_
                                        refine At.block_ret ?_
                                        refine At.then_ret ?_
                                        refine At.ret1 rfl rfl ?_
                                        first
                                          | exact ⟨_, rfl, notD (fun h => by have := h.1; unfold mayA at this; omega), hf1⟩
                                          | exact ⟨_, rfl, notD (fun h => by have := h.1; unfold mayA at this; omega), hf1.draws 1⟩
                                          | exact ⟨_, rfl, yesD ⟨by unfold mayA; omega, fun h3 => by omega⟩, hf1⟩
                                          | exact ⟨_, rfl, yesD ⟨by unfold mayA; omega, fun h3 => by omega⟩, hf1.draws 1⟩
                                          | exact ⟨_, rfl, notD (fun h => h.2 (by omega) hnul), hf1⟩
                                          | exact ⟨_, rfl, yesD ⟨by unfold mayA; omega, fun h3 h0 => by obtain ⟨i, hi, e⟩ := List.getElem_of_mem h0; exact hgood i (by omega) (by simp [List.getD, hi, e])⟩, hf1⟩
                                    ·
                                      refine Sl.calm (Cm.move rfl) rfl ?_
                                      refine Sl.skip rfl rfl rfl rfl ?_
                                      refine Sl.skip rfl rfl rfl rfl ?_
                                      refine Sl.skip rfl rfl rfl rfl ?_
                                      refine Sl.calm (Cm.pick_f rfl rfl) rfl ?_
                                      refine Sl.calm (Cm.move rfl) rfl ?_
                                      refine Sl.skip rfl rfl rfl rfl ?_
                                      refine Sl.skip rfl rfl rfl rfl ?_
                                      refine Sl.skip rfl rfl rfl rfl ?_
                                      refine Sl.calm (Cm.pick_f rfl rfl) rfl ?_
                                      refine Sl.calm (Cm.move rfl) rfl ?_
                                      refine Sl.skip rfl rfl rfl rfl ?_
                                      refine Sl.skip rfl rfl rfl rfl ?_
                                      refine Sl.skip rfl rfl rfl rfl ?_
                                      refine Sl.calm (Cm.pick_f rfl rfl) rfl ?_
                                      refine Sl.calm (Cm.move rfl) rfl ?_
                                      refine Sl.skip rfl rfl rfl rfl ?_
                                      refine Sl.skip rfl rfl rfl rfl ?_
                                      refine Sl.skip rfl rfl rfl rfl ?_
                                      refine Sl.skip rfl rfl rfl rfl ?_
                                      refine Sl.skip rfl rfl rfl rfl ?_
                                      refine Sl.skip rfl rfl rfl rfl ?_
                                      refine Sl.skip rfl rfl rfl rfl ?_
                                      refine Sl.skip rfl rfl rfl rfl ?_
                                      refine Sl.calm (Cm.pick_f rfl rfl) rfl ?_
                                      refine Sl.calm (Cm.move rfl) rfl ?_
                                      refine Sl.skip rfl rfl rfl rfl ?_
                                      refine Sl.skip rfl rfl rfl rfl ?_
                                      refine Sl.skip rfl rfl rfl rfl ?_
                                      refine Sl.calm (Cm.pick_f rfl rfl) rfl ?_
                                      refine Sl.calm (Cm.assign rfl) rfl ?_
                                      refine Sl.nil ?_
                                      refine At.weak [(0, _), (1, _), (2, _), (51, _), (53, _), (54, _), (83, _)] ⟨rfl, rfl, rfl, rfl, rfl, rfl, rfl, trivial⟩ ?_
                                      refine At.go ?_
                                      refine Sc.ret ?_
                                      refine At.block_ret ?_
                                      refine At.then_ret ?_
                                      refine At.ret1 rfl rfl ?_
                                      first
                                        | exact ⟨_, rfl, notD (fun h => by have := h.1; unfold mayA at this; omega), hf1⟩
                                        | exact ⟨_, rfl, notD (fun h => by have := h.1; unfold mayA at this; omega), hf1.draws 1⟩
                                        | exact ⟨_, rfl, yesD ⟨by unfold mayA; omega, fun h3 => by omega⟩, hf1⟩
                                        | exact ⟨_, rfl, yesD ⟨by unfold mayA; omega, fun h3 => by omega⟩, hf1.draws 1⟩
                                        | exact ⟨_, rfl, notD (fun h => h.2 (by omega) hnul), hf1⟩
                                        | exact ⟨_, rfl, yesD ⟨by unfold mayA; omega, fun h3 h0 => by obtain ⟨i, hi, e⟩ := List.getElem_of_mem h0; exact hgood i (by omega) (by simp [List.getD, hi, e])⟩, hf1⟩
                                  ·
                                    refine Sl.want rfl rfl (Cm.neqBool ty4 rfl rfl) rfl ?_
                                    refine Sl.calm (Cm.pick_f rfl rfl) rfl ?_
                                    refine Sl.nil ?_
                                    refine At.weak [(0, _), (1, _), (2, _), (51, _), (53, _), (54, _), (83, _)] ⟨rfl, rfl, rfl, rfl, rfl, rfl, rfl, trivial⟩ ?_
                                    refine At.go ?_
                                    refine Sc.cond_t rfl ?_
                                    refine Sc.seq ?_
                                    refine Sc.region ?_
                                    refine Sl.calm (Cm.assign rfl) rfl ?_
                                    refine Sl.nil ?_
                                    refine At.go ?_
                                    refine Sc.ret ?_
                                    refine At.then_ret ?_
                                    refine At.block_ret ?_
                                    refine At.then_ret ?_
                                    refine At.ret1 rfl rfl ?_
                                    first
                                      | exact ⟨_, rfl, notD (fun h => by have := h.1; unfold mayA at this; omega), hf1⟩
                                      | exact ⟨_, rfl, notD (fun h => by have := h.1; unfold mayA at this; omega), hf1.draws 1⟩
                                      | exact ⟨_, rfl, yesD ⟨by unfold mayA; omega, fun h3 => by omega⟩, hf1⟩
                                      | exact ⟨_, rfl, yesD ⟨by unfold mayA; omega, fun h3 => by omega⟩, hf1.draws 1⟩
                                      | exact ⟨_, rfl, notD (fun h => h.2 (by omega) hnul), hf1⟩
                                      | exact ⟨_, rfl, yesD ⟨by unfold mayA; omega, fun h3 h0 => by obtain ⟨i, hi, e⟩ := List.getElem_of_mem h0; exact hgood i (by omega) (by simp [List.getD, hi, e])⟩, hf1⟩
                                ·
                                  refine Sl.want rfl rfl (Cm.field fld33_7 rfl) rfl ?_
                                  refine Sl.want rfl rfl (Cm.ld sca3 rfl (cellF hg1 rfl)) rfl ?_
                                  refine Sl.want rfl rfl (Cm.rem64 rfl rfl (by omega) (by decide)) rfl ?_
                                  refine Sl.forkWant rfl rfl (Cm.gtr rfl rfl) rfl (fun h81 => ?_) (fun h81 => ?_)
                                  ·
                                    refine Sl.want rfl rfl (Cm.neqBool ty4 rfl rfl) rfl ?_
                                    refine Sl.calm (Cm.pick_f rfl rfl) rfl ?_
                                    refine Sl.nil ?_
                                    refine At.weak [(0, _), (1, _), (2, _), (51, _), (53, _), (54, _), (83, _)] ⟨rfl, rfl, rfl, rfl, rfl, rfl, rfl, trivial⟩ ?_
                                    refine At.go ?_
                                    refine Sc.cond_t rfl ?_
                                    refine Sc.seq ?_
                                    refine Sc.region ?_
                                    refine Sl.calm (Cm.assign rfl) rfl ?_
                                    refine Sl.nil ?_
                                    refine At.go ?_
                                    refine Sc.ret ?_
                                    refine At.then_ret ?_
                                    refine At.block_ret ?_
                                    refine At.then_ret ?_
                                    refine At.ret1 rfl rfl ?_
                                    first
                                      | exact ⟨_, rfl, notD (fun h => by have := h.1; unfold mayA at this; omega), hf1⟩
                                      | exact ⟨_, rfl, notD (fun h => by have := h.1; unfold mayA at this; omega), hf1.draws 1⟩
                                      | exact ⟨_, rfl, yesD ⟨by unfold mayA; omega, fun h3 => by omega⟩, hf1⟩
                                      | exact ⟨_, rfl, yesD ⟨by unfold mayA; omega, fun h3 => by omega⟩, hf1.draws 1⟩
                                      | exact ⟨_, rfl, notD (fun h => h.2 (by omega) hnul), hf1⟩
                                      | exact ⟨_, rfl, yesD ⟨by unfold mayA; omega, fun h3 h0 => by obtain ⟨i, hi, e⟩ := List.getElem_of_mem h0; exact hgood i (by omega) (by simp [List.getD, hi, e])⟩, hf1⟩
                                  ·
                                    refine Sl.want rfl rfl (Cm.neqBool ty4 rfl rfl) rfl ?_
                                    refine Sl.calm (Cm.pick_f rfl rfl) rfl ?_
                                    refine Sl.nil ?_
                                    refine At.weak [(0, _), (1, _), (2, _), (51, _), (53, _), (54, _), (83, _)] ⟨rfl, rfl, rfl, rfl, rfl, rfl, rfl, trivial⟩ ?_
                                    refine At.go ?_
                                    refine Sc.cond_f rfl ?_
                                    refine Sc.skip ?_
                                    refine At.go ?_
                                    refine Sc.seq ?_
                                    refine Sc.region ?_
                                    refine Sl.calm (Cm.field fld33_6 rfl) rfl ?_
                                    refine Sl.calm (Cm.ld sca3 rfl (cellF hg1 rfl)) rfl ?_
                                    refine Sl.fork (Cm.geq rfl rfl) rfl (fun h86 => ?_) (fun h86 => ?_)
                                    ·
                                      refine Sl.calm (Cm.move rfl) rfl ?_
                                      refine Sl.want rfl rfl (Cm.field fld33_6 rfl) rfl ?_
                                      refine Sl.want rfl rfl (Cm.ld sca3 rfl (cellF hg1 rfl)) rfl ?_
                                      refine Sl.forkWant rfl rfl (Cm.leq rfl rfl) rfl (fun h90 => ?_) (fun h90 => ?_)
                                      ·
                                        refine Sl.calm (Cm.pick_t rfl rfl) rfl ?_
                                        refine Sl.calm (Cm.move rfl) rfl ?_
                                        refine Sl.want rfl rfl (Cm.field fld33_9 rfl) rfl ?_
                                        refine Sl.want rfl rfl (Cm.ld sca3 rfl (cellF hg1 rfl)) rfl ?_
                                        refine Sl.forkWant rfl rfl (Cm.geq rfl rfl) rfl (fun h95 => ?_) (fun h95 => ?_)
                                        ·
                                          refine Sl.calm (Cm.pick_t rfl rfl) rfl ?_
                                          refine Sl.calm (Cm.move rfl) rfl ?_
                                          refine Sl.want rfl rfl (Cm.field fld33_9 rfl) rfl ?_
                                          refine Sl.want rfl rfl (Cm.ld sca3 rfl (cellF hg1 rfl)) rfl ?_
                                          refine Sl.forkWant rfl rfl (Cm.lss rfl rfl) rfl (fun h100 => ?_) (fun h100 => ?_)
                                          ·
                                            refine Sl.calm (Cm.pick_t rfl rfl) rfl ?_
                                            refine Sl.calm (Cm.move rfl) rfl ?_
                                            refine Sl.want rfl rfl (Cm.field fld33_8 rfl) rfl ?_
                                            refine Sl.want rfl rfl (Cm.ld sca3 rfl (cellF hg1 rfl)) rfl ?_
                                            refine Sl.forkWant rfl rfl (Cm.gtr rfl rfl) rfl (fun h105 => ?_) (fun h105 => ?_)
                                            ·
                                              refine Sl.want rfl rfl (Cm.move rfl) rfl ?_
                                              refine Sl.skip rfl rfl rfl rfl ?_
                                              refine Sl.skip rfl rfl rfl rfl ?_
                                              refine Sl.skip rfl rfl rfl rfl ?_
                                              refine Sl.want rfl rfl (Cm.pick_t rfl rfl) rfl ?_
                                              refine Sl.calm (Cm.pick_t rfl rfl) rfl ?_
                                              refine Sl.calm (Cm.move rfl) rfl ?_
                                              refine Sl.want rfl rfl (Cm.field fld33_10 rfl) rfl ?_
                                              refine Sl.want rfl rfl (Cm.ld sca9 rfl (cellF hg1 rfl)) rfl ?_
                                              refine Sl.forkWant rfl rfl (Cm.eqlBs rfl rfl) rfl (fun h115 => ?_) (fun h115 => ?_)
                                              ·
                                                have hT0 : T.length = 0 := by rw [h115]; rfl
                                                refine Sl.calm (Cm.pick_t rfl rfl) rfl ?_
                                                refine Sl.calm (Cm.assign rfl) rfl ?_
                                                refine Sl.nil ?_
                                                refine At.weak [(0, _), (1, _), (2, _), (51, _), (53, _), (54, _), (83, _)] ⟨rfl, rfl, rfl, rfl, rfl, rfl, rfl, trivial⟩ ?_
                                                refine At.go ?_
                                                refine Sc.ret ?_
                                                refine At.block_ret ?_
                                                refine At.then_ret ?_
                                                refine At.ret1 rfl rfl ?_
                                                first
                                                  | exact ⟨_, rfl, notD (fun h => by have := h.1; unfold mayA at this; omega), hf1⟩
                                                  | exact ⟨_, rfl, notD (fun h => by have := h.1; unfold mayA at this; omega), hf1.draws 1⟩
                                                  | exact ⟨_, rfl, yesD ⟨by unfold mayA; omega, fun h3 => by omega⟩, hf1⟩
                                                  | exact ⟨_, rfl, yesD ⟨by unfold mayA; omega, fun h3 => by omega⟩, hf1.draws 1⟩
                                                  | exact ⟨_, rfl, notD (fun h => h.2 (by omega) hnul), hf1⟩
                                                  | exact ⟨_, rfl, yesD ⟨by unfold mayA; omega, fun h3 h0 => by obtain ⟨i, hi, e⟩ := List.getElem_of_mem h0; exact hgood i (by omega) (by simp [List.getD, hi, e])⟩, hf1⟩
                                              ·
                                                have hT0 : T.length ≠ 0 := fun e => h115 (List.eq_nil_of_length_eq_zero e)
                                                refine Sl.calm (Cm.pick_t rfl rfl) rfl ?_
                                                refine Sl.calm (Cm.assign rfl) rfl ?_
                                                refine Sl.nil ?_
                                                refine At.weak [(0, _), (1, _), (2, _), (51, _), (53, _), (54, _), (83, _)] ⟨rfl, rfl, rfl, rfl, rfl, rfl, rfl, trivial⟩ ?_
                                                refine At.go ?_
                                                refine Sc.ret ?_
                                                refine At.block_ret ?_
                                                refine At.then_ret ?_
                                                refine At.ret1 rfl rfl ?_
                                                first
                                                  | exact ⟨_, rfl, notD (fun h => by have := h.1; unfold mayA at this; omega), hf1⟩
                                                  | exact ⟨_, rfl, notD (fun h => by have := h.1; unfold mayA at this; omega), hf1.draws 1⟩
                                                  | exact ⟨_, rfl, yesD ⟨by unfold mayA; omega, fun h3 => by omega⟩, hf1⟩
                                                  | exact ⟨_, rfl, yesD ⟨by unfold mayA; omega, fun h3 => by omega⟩, hf1.draws 1⟩
                                                  | exact ⟨_, rfl, notD (fun h => h.2 (by omega) hnul), hf1⟩
                                                  | exact ⟨_, rfl, yesD ⟨by unfold mayA; omega, fun h3 h0 => by obtain ⟨i, hi, e⟩ := List.getElem_of_mem h0; exact hgood i (by omega) (by simp [List.getD, hi, e])⟩, hf1⟩
                                            ·
                                              refine Sl.want rfl rfl (Cm.move rfl) rfl ?_
                                              refine Sl.want rfl rfl (Cm.field fld33_9 rfl) rfl ?_
                                              refine Sl.want rfl rfl (Cm.ld sca3 rfl (cellF hg1 rfl)) rfl ?_
                                              refine Sl.forkWant rfl rfl (Cm.eql rfl rfl) rfl (fun h109 => ?_) (fun h109 => ?_)
                                              ·
                                                refine Sl.want rfl rfl (Cm.pick_f rfl rfl) rfl ?_
                                                refine Sl.calm (Cm.pick_t rfl rfl) rfl ?_
                                                refine Sl.calm (Cm.move rfl) rfl ?_
                                                refine Sl.want rfl rfl (Cm.field fld33_10 rfl) rfl ?_
                                                refine Sl.want rfl rfl (Cm.ld sca9 rfl (cellF hg1 rfl)) rfl ?_
                                                refine Sl.forkWant rfl rfl (Cm.eqlBs rfl rfl) rfl (fun h115 => ?_) (fun h115 => ?_)
                                                ·
                                                  have hT0 : T.length = 0 := by rw [h115]; rfl
                                                  refine Sl.calm (Cm.pick_t rfl rfl) rfl ?_
                                                  refine Sl.calm (Cm.assign rfl) rfl ?_
                                                  refine Sl.nil ?_
                                                  refine At.weak [(0, _), (1, _), (2, _), (51, _), (53, _), (54, _), (83, _)] ⟨rfl, rfl, rfl, rfl, rfl, rfl, rfl, trivial⟩ ?_
                                                  refine At.go ?_
                                                  refine Sc.ret ?_
                                                  refine At.block_ret ?_
                                                  refine At.then_ret ?_
                                                  refine At.ret1 rfl rfl ?_
                                                  first
                                                    | exact ⟨_, rfl, notD (fun h => by have := h.1; unfold mayA at this; omega), hf1⟩
                                                    | exact ⟨_, rfl, notD (fun h => by have := h.1; unfold mayA at this; omega), hf1.draws 1⟩
                                                    | exact ⟨_, rfl, yesD ⟨by unfold mayA; omega, fun h3 => by omega⟩, hf1⟩
                                                    | exact ⟨_, rfl, yesD ⟨by unfold mayA; omega, fun h3 => by omega⟩, hf1.draws 1⟩
                                                    | exact ⟨_, rfl, notD (fun h => h.2 (by omega) hnul), hf1⟩
                                                    | exact ⟨_, rfl, yesD ⟨by unfold mayA; omega, fun h3 h0 => by obtain ⟨i, hi, e⟩ := List.getElem_of_mem h0; exact hgood i (by omega) (by simp [List.getD, hi, e])⟩, hf1⟩
                                                ·
                                                  have hT0 : T.length ≠ 0 := fun e => h115 (List.eq_nil_of_length_eq_zero e)
                                                  refine Sl.calm (Cm.pick_t rfl rfl) rfl ?_
                                                  refine Sl.calm (Cm.assign rfl) rfl ?_
                                                  refine Sl.nil ?_
                                                  refine At.weak [(0, _), (1, _), (2, _), (51, _), (53, _), (54, _), (83, _)] ⟨rfl, rfl, rfl, rfl, rfl, rfl, rfl, trivial⟩ ?_
                                                  refine At.go ?_
                                                  refine Sc.ret ?_
                                                  refine At.block_ret ?_
                                                  refine At.then_ret ?_
                                                  refine At.ret1 rfl rfl ?_
                                                  first
                                                    | exact ⟨_, rfl, notD (fun h => by have := h.1; unfold mayA at this; omega), hf1⟩
                                                    | exact ⟨_, rfl, notD (fun h => by have := h.1; unfold mayA at this; omega), hf1.draws 1⟩
                                                    | exact ⟨_, rfl, yesD ⟨by unfold mayA; omega, fun h3 => by omega⟩, hf1⟩
                                                    | exact ⟨_, rfl, yesD ⟨by unfold mayA; omega, fun h3 => by omega⟩, hf1.draws 1⟩
                                                    | exact ⟨_, rfl, notD (fun h => h.2 (by omega) hnul), hf1⟩
                                                    | exact ⟨_, rfl, yesD ⟨by unfold mayA; omega, fun h3 h0 => by obtain ⟨i, hi, e⟩ := List.getElem_of_mem h0; exact hgood i (by omega) (by simp [List.getD, hi, e])⟩, hf1⟩
                                              ·
                                                refine Sl.want rfl rfl (Cm.pick_f rfl rfl) rfl ?_
                                                refine Sl.calm (Cm.pick_t rfl rfl) rfl ?_
                                                refine Sl.calm (Cm.move rfl) rfl ?_
                                                refine Sl.skip rfl rfl rfl rfl ?_
                                                refine Sl.skip rfl rfl rfl rfl ?_
                                                refine Sl.skip rfl rfl rfl rfl ?_
                                                refine Sl.calm (Cm.pick_f rfl rfl) rfl ?_
                                                refine Sl.calm (Cm.assign rfl) rfl ?_
                                                refine Sl.nil ?_
                                                refine At.weak [(0, _), (1, _), (2, _), (51, _), (53, _), (54, _), (83, _)] ⟨rfl, rfl, rfl, rfl, rfl, rfl, rfl, trivial⟩ ?_
                                                refine At.go ?_
                                                refine Sc.ret ?_
                                                refine At.block_ret ?_
                                                refine At.then_ret ?_
                                                refine At.ret1 rfl rfl ?_
                                                first
                                                  | exact ⟨_, rfl, notD (fun h => by have := h.1; unfold mayA at this; omega), hf1⟩
                                                  | exact ⟨_, rfl, notD (fun h => by have := h.1; unfold mayA at this; omega), hf1.draws 1⟩
                                                  | exact ⟨_, rfl, yesD ⟨by unfold mayA; omega, fun h3 => by omega⟩, hf1⟩
                                                  | exact ⟨_, rfl, yesD ⟨by unfold mayA; omega, fun h3 => by omega⟩, hf1.draws 1⟩
                                                  | exact ⟨_, rfl, notD (fun h => h.2 (by omega) hnul), hf1⟩
                                                  | exact ⟨_, rfl, yesD ⟨by unfold mayA; omega, fun h3 h0 => by obtain ⟨i, hi, e⟩ := List.getElem_of_mem h0; exact hgood i (by omega) (by simp [List.getD, hi, e])⟩, hf1⟩
                                          ·
                                            refine Sl.calm (Cm.pick_t rfl rfl) rfl ?_
                                            refine Sl.calm (Cm.move rfl) rfl ?_
                                            refine Sl.skip rfl rfl rfl rfl ?_
                                            refine Sl.skip rfl rfl rfl rfl ?_
                                            refine Sl.skip rfl rfl rfl rfl ?_
                                            refine Sl.skip rfl rfl rfl rfl ?_
                                            refine Sl.skip rfl rfl rfl rfl ?_
                                            refine Sl.skip rfl rfl rfl rfl ?_
                                            refine Sl.skip rfl rfl rfl rfl ?_
                                            refine Sl.skip rfl rfl rfl rfl ?_
                                            refine Sl.calm (Cm.pick_f rfl rfl) rfl ?_
                                            refine Sl.calm (Cm.move rfl) rfl ?_
                                            refine Sl.skip rfl rfl rfl rfl ?_
                                            refine Sl.skip rfl rfl rfl rfl ?_
                                            refine Sl.skip rfl rfl rfl rfl ?_
                                            refine Sl.calm (Cm.pick_f rfl rfl) rfl ?_
                                            refine Sl.calm (Cm.assign rfl) rfl ?_
                                            refine Sl.nil ?_
                                            refine At.weak [(0, _), (1, _), (2, _), (51, _), (53, _), (54, _), (83, _)] ⟨rfl, rfl, rfl, rfl, rfl, rfl, rfl, trivial⟩ ?_
                                            refine At.go ?_
                                            refine Sc.ret ?_
                                            refine At.block_ret ?_
                                            refine At.then_ret ?_
                                            refine At.ret1 rfl rfl ?_
                                            first
                                              | exact ⟨_, rfl, notD (fun h => by have := h.1; unfold mayA at this; omega), hf1⟩
                                              | exact ⟨_, rfl, notD (fun h => by have := h.1; unfold mayA at this; omega), hf1.draws 1⟩
                                              | exact ⟨_, rfl, yesD ⟨by unfold mayA; omega, fun h3 => by omega⟩, hf1⟩
                                              | exact ⟨_, rfl, yesD ⟨by unfold mayA; omega, fun h3 => by omega⟩, hf1.draws 1⟩
                                              | exact ⟨_, rfl, notD (fun h => h.2 (by omega) hnul), hf1⟩
                                              | exact ⟨_, rfl, yesD ⟨by unfold mayA; omega, fun h3 h0 => by obtain ⟨i, hi, e⟩ := List.getElem_of_mem h0; exact hgood i (by omega) (by simp [List.getD, hi, e])⟩, hf1⟩
                                        ·
                                          refine Sl.calm (Cm.pick_t rfl rfl) rfl ?_
                                          refine Sl.calm (Cm.move rfl) rfl ?_
                                          refine Sl.skip rfl rfl rfl rfl ?_
                                          refine Sl.skip rfl rfl rfl rfl ?_
                                          refine Sl.skip rfl rfl rfl rfl ?_
                                          refine Sl.calm (Cm.pick_f rfl rfl) rfl ?_
                                          refine Sl.calm (Cm.move rfl) rfl ?_
                                          refine Sl.skip rfl rfl rfl rfl ?_
                                          refine Sl.skip rfl rfl rfl rfl ?_
                                          refine Sl.skip rfl rfl rfl rfl ?_
                                          refine Sl.skip rfl rfl rfl rfl ?_
                                          refine Sl.skip rfl rfl rfl rfl ?_
                                          refine Sl.skip rfl rfl rfl rfl ?_
                                          refine Sl.skip rfl rfl rfl rfl ?_
                                          refine Sl.skip rfl rfl rfl rfl ?_
                                          refine Sl.calm (Cm.pick_f rfl rfl) rfl ?_
                                          refine Sl.calm (Cm.move rfl) rfl ?_
                                          refine Sl.skip rfl rfl rfl rfl ?_
                                          refine Sl.skip rfl rfl rfl rfl ?_
                                          refine Sl.skip rfl rfl rfl rfl ?_
                                          refine Sl.calm (Cm.pick_f rfl rfl) rfl ?_
                                          refine Sl.calm (Cm.assign rfl) rfl ?_
                                          refine Sl.nil ?_
                                          refine At.weak [(0, _), (1, _), (2, _), (51, _), (53, _), (54, _), (83, _)] ⟨rfl, rfl, rfl, rfl, rfl, rfl, rfl, trivial⟩ ?_
                                          refine At.go ?_
                                          refine Sc.ret ?_
                                          refine At.block_ret ?_
                                          refine At.then_ret ?_
                                          refine At.ret1 rfl rfl ?_
                                          first
                                            | exact ⟨_, rfl, notD (fun h => by have := h.1; unfold mayA at this; omega), hf1⟩
                                            | exact ⟨_, rfl, notD (fun h => by have := h.1; unfold mayA at this; omega), hf1.draws 1⟩
                                            | exact ⟨_, rfl, yesD ⟨by unfold mayA; omega, fun h3 => by omega⟩, hf1⟩
                                            | exact ⟨_, rfl, yesD ⟨by unfold mayA; omega, fun h3 => by omega⟩, hf1.draws 1⟩
                                            | exact ⟨_, rfl, notD (fun h => h.2 (by omega) hnul), hf1⟩
                                            | exact ⟨_, rfl, yesD ⟨by unfold mayA; omega, fun h3 h0 => by obtain ⟨i, hi, e⟩ := List.getElem_of_mem h0; exact hgood i (by omega) (by simp [List.getD, hi, e])⟩, hf1⟩
                                      ·
                                        refine Sl.calm (Cm.pick_t rfl rfl) rfl ?_
                                        refine Sl.calm (Cm.move rfl) rfl ?_
                                        refine Sl.skip rfl rfl rfl rfl ?_
                                        refine Sl.skip rfl rfl rfl rfl ?_
                                        refine Sl.skip rfl rfl rfl rfl ?_
                                        refine Sl.calm (Cm.pick_f rfl rfl) rfl ?_
                                        refine Sl.calm (Cm.move rfl) rfl ?_
                                        refine Sl.skip rfl rfl rfl rfl ?_
                                        refine Sl.skip rfl rfl rfl rfl ?_
                                        refine Sl.skip rfl rfl rfl rfl ?_
                                        refine Sl.calm (Cm.pick_f rfl rfl) rfl ?_
                                        refine Sl.calm (Cm.move rfl) rfl ?_
                                        refine Sl.skip rfl rfl rfl rfl ?_
                                        refine Sl.skip rfl rfl rfl rfl ?_
                                        refine Sl.skip rfl rfl rfl rfl ?_
                                        refine Sl.skip rfl rfl rfl rfl ?_
                                        refine Sl.skip rfl rfl rfl rfl ?_
                                        refine Sl.skip rfl rfl rfl rfl ?_
                                        refine Sl.skip rfl rfl rfl rfl ?_
                                        refine Sl.skip rfl rfl rfl rfl ?_
                                        refine Sl.calm (Cm.pick_f rfl rfl) rfl ?_
                                        refine Sl.calm (Cm.move rfl) rfl ?_
                                        refine Sl.skip rfl rfl rfl rfl ?_
                                        refine Sl.skip rfl rfl rfl rfl ?_
                                        refine Sl.skip rfl rfl rfl rfl ?_
                                        refine Sl.calm (Cm.pick_f rfl rfl) rfl ?_
                                        refine Sl.calm (Cm.assign rfl) rfl ?_
                                        refine Sl.nil ?_
                                        refine At.weak [(0, _), (1, _), (2, _), (51, _), (53, _), (54, _), (83, _)] ⟨rfl, rfl, rfl, rfl, rfl, rfl, rfl, trivial⟩ ?_
                                        refine At.go ?_
                                        refine Sc.ret ?_
                                        refine At.block_ret ?_
                                        refine At.then_ret ?_
                                        refine At.ret1 rfl rfl ?_
                                        first
                                          | exact ⟨_, rfl, notD (fun h => by have := h.1; unfold mayA at this; omega), hf1⟩
                                          | exact ⟨_, rfl, notD (fun h => by have := h.1; unfold mayA at this; omega), hf1.draws 1⟩
                                          | exact ⟨_, rfl, yesD ⟨by unfold mayA; omega, fun h3 => by omega⟩, hf1⟩
                                          | exact ⟨_, rfl, yesD ⟨by unfold mayA; omega, fun h3 => by omega⟩, hf1.draws 1⟩
                                          | exact ⟨_, rfl, notD (fun h => h.2 (by omega) hnul), hf1⟩
                                          | exact ⟨_, rfl, yesD ⟨by unfold mayA; omega, fun h3 h0 => by obtain ⟨i, hi, e⟩ := List.getElem_of_mem h0; exact hgood i (by omega) (by simp [List.getD, hi, e])⟩, hf1⟩
                                    ·
                                      refine Sl.calm (Cm.move rfl) rfl ?_
                                      refine Sl.skip rfl rfl rfl rfl ?_
                                      refine Sl.skip rfl rfl rfl rfl ?_
                                      refine Sl.skip rfl rfl rfl rfl ?_
                                      refine Sl.calm (Cm.pick_f rfl rfl) rfl ?_
                                      refine Sl.calm (Cm.move rfl) rfl ?_
                                      refine Sl.skip rfl rfl rfl rfl ?_
                                      refine Sl.skip rfl rfl rfl rfl ?_
                                      refine Sl.skip rfl rfl rfl rfl ?_
                                      refine Sl.calm (Cm.pick_f rfl rfl) rfl ?_
                                      refine Sl.calm (Cm.move rfl) rfl ?_
                                      refine Sl.skip rfl rfl rfl rfl ?_
                                      refine Sl.skip rfl rfl rfl rfl ?_
                                      refine Sl.skip rfl rfl rfl rfl ?_
                                      refine Sl.calm (Cm.pick_f rfl rfl) rfl ?_
                                      refine Sl.calm (Cm.move rfl) rfl ?_
                                      refine Sl.skip rfl rfl rfl rfl ?_
                                      refine Sl.skip rfl rfl rfl rfl ?_
                                      refine Sl.skip rfl rfl rfl rfl ?_
                                      refine Sl.skip rfl rfl rfl rfl ?_
                                      refine Sl.skip rfl rfl rfl rfl ?_
                                      refine Sl.skip rfl rfl rfl rfl ?_
                                      refine Sl.skip rfl rfl rfl rfl ?_
                                      refine Sl.skip rfl rfl rfl rfl ?_
                                      refine Sl.calm (Cm.pick_f rfl rfl) rfl ?_
                                      refine Sl.calm (Cm.move rfl) rfl ?_
                                      refine Sl.skip rfl rfl rfl rfl ?_
                                      refine Sl.skip rfl rfl rfl rfl ?_
                                      refine Sl.skip rfl rfl rfl rfl ?_
                                      refine Sl.calm (Cm.pick_f rfl rfl) rfl ?_
                                      refine Sl.calm (Cm.assign rfl) rfl ?_
                                      refine Sl.nil ?_
                                      refine At.weak [(0, _), (1, _), (2, _), (51, _), (53, _), (54, _), (83, _)] ⟨rfl, rfl, rfl, rfl, rfl, rfl, rfl, trivial⟩ ?_
                                      refine At.go ?_
                                      refine Sc.ret ?_
                                      refine At.block_ret ?_
                                      refine At.then_ret ?_
                                      refine At.ret1 rfl rfl ?_
                                      first
                                        | exact ⟨_, rfl, notD (fun h => by have := h.1; unfold mayA at this; omega), hf1⟩
                                        | exact ⟨_, rfl, notD (fun h => by have := h.1; unfold mayA at this; omega), hf1.draws 1⟩
                                        | exact ⟨_, rfl, yesD ⟨by unfold mayA; omega, fun h3 => by omega⟩, hf1⟩
                                        | exact ⟨_, rfl, yesD ⟨by unfold mayA; omega, fun h3 => by omega⟩, hf1.draws 1⟩
                                        | exact ⟨_, rfl, notD (fun h => h.2 (by omega) hnul), hf1⟩
                                        | exact ⟨_, rfl, yesD ⟨by unfold mayA; omega, fun h3 h0 => by obtain ⟨i, hi, e⟩ := List.getElem_of_mem h0; exact hgood i (by omega) (by simp [List.getD, hi, e])⟩, hf1⟩
                      ·
                        refine Sl.calm (Cm.assign rfl) rfl ?_
                        refine Sl.nil ?_
                        refine At.weak [(0, _), (1, _), (2, _), (51, _), (53, _), (54, _)] ⟨rfl, rfl, rfl, rfl, rfl, rfl, trivial⟩ ?_
                        refine At.go ?_
                        refine Sc.cond_f rfl ?_
                        refine Sc.seq ?_
                        refine Sc.region ?_
                        refine Sl.fork (Cm.eql rfl rfl) rfl (fun h118 => ?_) (fun h118 => ?_)
                        ·
                          refine Sl.calm (Cm.assign rfl) rfl ?_
                          refine Sl.nil ?_
                          refine At.weak [(0, _), (1, _), (2, _), (51, _), (53, _), (54, _), (117, _)] ⟨rfl, rfl, rfl, rfl, rfl, rfl, rfl, trivial⟩ ?_
                          refine At.go ?_
                          refine Sc.cond_t rfl ?_
                          refine Sc.seq ?_
                          refine Sc.region ?_
                          refine Sl.calm (Cm.field fld33_6 rfl) rfl ?_
                          refine Sl.calm (Cm.ld sca3 rfl (cellF hg1 rfl)) rfl ?_
                          refine Sl.fork (Cm.geq rfl rfl) rfl (fun h121 => ?_) (fun h121 => ?_)
                          ·
                            refine Sl.calm (Cm.move rfl) rfl ?_
                            refine Sl.want rfl rfl (Cm.field fld33_6 rfl) rfl ?_
                            refine Sl.want rfl rfl (Cm.ld sca3 rfl (cellF hg1 rfl)) rfl ?_
                            refine Sl.forkWant rfl rfl (Cm.leq rfl rfl) rfl (fun h125 => ?_) (fun h125 => ?_)
                            ·
                              refine Sl.calm (Cm.pick_t rfl rfl) rfl ?_
                              refine Sl.calm (Cm.move rfl) rfl ?_
                              refine Sl.want rfl rfl (Cm.field fld33_7 rfl) rfl ?_
                              refine Sl.want rfl rfl (Cm.ld sca3 rfl (cellF hg1 rfl)) rfl ?_
                              refine Sl.forkWant rfl rfl (Cm.geq rfl rfl) rfl (fun h130 => ?_) (fun h130 => ?_)
                              ·
                                refine Sl.calm (Cm.pick_t rfl rfl) rfl ?_
                                refine Sl.calm (Cm.move rfl) rfl ?_
                                refine Sl.want rfl rfl (Cm.field fld33_7 rfl) rfl ?_
                                refine Sl.want rfl rfl (Cm.ld sca3 rfl (cellF hg1 rfl)) rfl ?_
                                refine Sl.forkWant rfl rfl (Cm.leq rfl rfl) rfl (fun h135 => ?_) (fun h135 => ?_)
                                ·
                                  refine Sl.calm (Cm.pick_t rfl rfl) rfl ?_
                                  refine Sl.calm (Cm.move rfl) rfl ?_
                                  refine Sl.want rfl rfl (Cm.field fld33_4 rfl) rfl ?_
                                  refine Sl.want rfl rfl (Cm.ld sca3 rfl (cellF hg1 rfl)) rfl ?_
                                  refine Sl.forkWant rfl rfl (Cm.eql rfl rfl) rfl (fun h140 => ?_) (fun h140 => ?_)
                                  ·
                                    refine Sl.calm (Cm.pick_t rfl rfl) rfl ?_
                                    refine Sl.calm (Cm.move rfl) rfl ?_
                                    refine Sl.want rfl rfl (Cm.field fld33_8 rfl) rfl ?_
                                    refine Sl.want rfl rfl (Cm.ld sca3 rfl (cellF hg1 rfl)) rfl ?_
                                    refine Sl.forkWant rfl rfl (Cm.eql rfl rfl) rfl (fun h145 => ?_) (fun h145 => ?_)
                                    ·
                                      refine Sl.calm (Cm.pick_t rfl rfl) rfl ?_
                                      refine Sl.calm (Cm.move rfl) rfl ?_
                                      refine Sl.want rfl rfl (Cm.field fld33_9 rfl) rfl ?_
                                      refine Sl.want rfl rfl (Cm.ld sca3 rfl (cellF hg1 rfl)) rfl ?_
                                      refine Sl.forkWant rfl rfl (Cm.eql rfl rfl) rfl (fun h150 => ?_) (fun h150 => ?_)
                                      ·
                                        refine Sl.calm (Cm.pick_t rfl rfl) rfl ?_
                                        refine Sl.calm (Cm.move rfl) rfl ?_
                                        refine Sl.want rfl rfl (Cm.field fld33_10 rfl) rfl ?_
                                        refine Sl.want rfl rfl (Cm.ld sca9 rfl (cellF hg1 rfl)) rfl ?_
                                        refine Sl.forkWant rfl rfl (Cm.eqlBs rfl rfl) rfl (fun h155 => ?_) (fun h155 => ?_)
                                        ·
                                          have hT0 : T.length = 0 := by rw [h155]; rfl
                                          refine Sl.calm (Cm.pick_t rfl rfl) rfl ?_
                                          refine Sl.calm (Cm.assign rfl) rfl ?_
                                          refine Sl.nil ?_
                                          refine At.weak [(0, _), (1, _), (2, _), (51, _), (53, _), (54, _), (117, _)] ⟨rfl, rfl, rfl, rfl, rfl, rfl, rfl, trivial⟩ ?_
                                          refine At.go ?_
                                          refine Sc.ret ?_
                                          refine At.block_ret ?_
                                          refine At.then_ret ?_
                                          refine At.ret1 rfl rfl ?_
                                          first
                                            | exact ⟨_, rfl, notD (fun h => by have := h.1; unfold mayA at this; omega), hf1⟩
                                            | exact ⟨_, rfl, notD (fun h => by have := h.1; unfold mayA at this; omega), hf1.draws 1⟩
                                            | exact ⟨_, rfl, yesD ⟨by unfold mayA; omega, fun h3 => by omega⟩, hf1⟩
                                            | exact ⟨_, rfl, yesD ⟨by unfold mayA; omega, fun h3 => by omega⟩, hf1.draws 1⟩
                                            | exact ⟨_, rfl, notD (fun h => h.2 (by omega) hnul), hf1⟩
                                            | exact ⟨_, rfl, yesD ⟨by unfold mayA; omega, fun h3 h0 => by obtain ⟨i, hi, e⟩ := List.getElem_of_mem h0; exact hgood i (by omega) (by simp [List.getD, hi, e])⟩, hf1⟩
                                        ·
                                          have hT0 : T.length ≠ 0 := fun e => h155 (List.eq_nil_of_length_eq_zero e)
                                          refine Sl.calm (Cm.pick_t rfl rfl) rfl ?_
                                          refine Sl.calm (Cm.assign rfl) rfl ?_
                                          refine Sl.nil ?_
                                          refine At.weak [(0, _), (1, _), (2, _), (51, _), (53, _), (54, _), (117, _)] ⟨rfl, rfl, rfl, rfl, rfl, rfl, rfl, trivial⟩ ?_
                                          refine At.go ?_
                                          refine Sc.ret ?_
                                          refine At.block_ret ?_
                                          refine At.then_ret ?_
                                          refine At.ret1 rfl rfl ?_
                                          first
                                            | exact ⟨_, rfl, notD (fun h => by have := h.1; unfold mayA at this; omega), hf1⟩
                                            | exact ⟨_, rfl, notD (fun h => by have := h.1; unfold mayA at this; omega), hf1.draws 1⟩
                                            | exact ⟨_, rfl, yesD ⟨by unfold mayA; omega, fun h3 => by omega⟩, hf1⟩
                                            | exact ⟨_, rfl, yesD ⟨by unfold mayA; omega, fun h3 => by omega⟩, hf1.draws 1⟩
                                            | exact ⟨_, rfl, notD (fun h => h.2 (by omega) hnul), hf1⟩
                                            | exact ⟨_, rfl, yesD ⟨by unfold mayA; omega, fun h3 h0 => by obtain ⟨i, hi, e⟩ := List.getElem_of_mem h0; exact hgood i (by omega) (by simp [List.getD, hi, e])⟩, hf1⟩
                                      ·
                                        refine Sl.calm (Cm.pick_t rfl rfl) rfl ?_
                                        refine Sl.calm (Cm.move rfl) rfl ?_
                                        refine Sl.skip rfl rfl rfl rfl ?_
                                        refine Sl.skip rfl rfl rfl rfl ?_
                                        refine Sl.skip rfl rfl rfl rfl ?_
                                        refine Sl.calm (Cm.pick_f rfl rfl) rfl ?_
                                        refine Sl.calm (Cm.assign rfl) rfl ?_
                                        refine Sl.nil ?_
                                        refine At.weak [(0, _), (1, _), (2, _), (51, _), (53, _), (54, _), (117, _)] ⟨rfl, rfl, rfl, rfl, rfl, rfl, rfl, trivial⟩ ?_
                                        refine At.go ?_
                                        refine Sc.ret ?_
                                        refine At.block_ret ?_
                                        refine At.then_ret ?_
                                        refine At.ret1 rfl rfl ?_
                                        first
                                          | exact ⟨_, rfl, notD (fun h => by have := h.1; unfold mayA at this; omega), hf1⟩
                                          | exact ⟨_, rfl, notD (fun h => by have := h.1; unfold mayA at this; omega), hf1.draws 1⟩
                                          | exact ⟨_, rfl, yesD ⟨by unfold mayA; omega, fun h3 => by omega⟩, hf1⟩
                                          | exact ⟨_, rfl, yesD ⟨by unfold mayA; omega, fun h3 => by omega⟩, hf1.draws 1⟩
                                          | exact ⟨_, rfl, notD (fun h => h.2 (by omega) hnul), hf1⟩
                                          | exact ⟨_, rfl, yesD ⟨by unfold mayA; omega, fun h3 h0 => by obtain ⟨i, hi, e⟩ := List.getElem_of_mem h0; exact hgood i (by omega) (by simp [List.getD, hi, e])⟩, hf1⟩
                                    ·
                                      refine Sl.calm (Cm.pick_t rfl rfl) rfl ?_
                                      refine Sl.calm (Cm.move rfl) rfl ?_
                                      refine Sl.skip rfl rfl rfl rfl ?_
                                      refine Sl.skip rfl rfl rfl rfl ?_
                                      refine Sl.skip rfl rfl rfl rfl ?_
                                      refine Sl.calm (Cm.pick_f rfl rfl) rfl ?_
                                      refine Sl.calm (Cm.move rfl) rfl ?_
                                      refine Sl.skip rfl rfl rfl rfl ?_
                                      refine Sl.skip rfl rfl rfl rfl ?_
                                      refine Sl.skip rfl rfl rfl rfl ?_
                                      refine Sl.calm (Cm.pick_f rfl rfl) rfl ?_
                                      refine Sl.calm (Cm.assign rfl) rfl ?_
                                      refine Sl.nil ?_
                                      refine At.weak [(0, _), (1, _), (2, _), (51, _), (53, _), (54, _), (117, _)] ⟨rfl, rfl, rfl, rfl, rfl, rfl, rfl, trivial⟩ ?_
                                      refine At.go ?_
                                      refine Sc.ret ?_
                                      refine At.block_ret ?_
                                      refine At.then_ret ?_
                                      refine At.ret1 rfl rfl ?_
                                      first
                                        | exact ⟨_, rfl, notD (fun h => by have := h.1; unfold mayA at this; omega), hf1⟩
                                        | exact ⟨_, rfl, notD (fun h => by have := h.1; unfold mayA at this; omega), hf1.draws 1⟩
                                        | exact ⟨_, rfl, yesD ⟨by unfold mayA; omega, fun h3 => by omega⟩, hf1⟩
                                        | exact ⟨_, rfl, yesD ⟨by unfold mayA; omega, fun h3 => by omega⟩, hf1.draws 1⟩
                                        | exact ⟨_, rfl, notD (fun h => h.2 (by omega) hnul), hf1⟩
                                        | exact ⟨_, rfl, yesD ⟨by unfold mayA; omega, fun h3 h0 => by obtain ⟨i, hi, e⟩ := List.getElem_of_mem h0; exact hgood i (by omega) (by simp [List.getD, hi, e])⟩, hf1⟩
                                  ·
                                    refine Sl.calm (Cm.pick_t rfl rfl) rfl ?_
                                    refine Sl.calm (Cm.move rfl) rfl ?_
                                    refine Sl.skip rfl rfl rfl rfl ?_
                                    refine Sl.skip rfl rfl rfl rfl ?_
                                    refine Sl.skip rfl rfl rfl rfl ?_
                                    refine Sl.calm (Cm.pick_f rfl rfl) rfl ?_
                                    refine Sl.calm (Cm.move rfl) rfl ?_
                                    refine Sl.skip rfl rfl rfl rfl ?_
                                    refine Sl.skip rfl rfl rfl rfl ?_
                                    refine Sl.skip rfl rfl rfl rfl ?_
                                    refine Sl.calm (Cm.pick_f rfl rfl) rfl ?_
                                    refine Sl.calm (Cm.move rfl) rfl ?_
                                    refine Sl.skip rfl rfl rfl rfl ?_
                                    refine Sl.skip rfl rfl rfl rfl ?_
                                    refine Sl.skip rfl rfl rfl rfl ?_
                                    refine Sl.calm (Cm.pick_f rfl rfl) rfl ?_
                                    refine Sl.calm (Cm.assign rfl) rfl ?_
                                    refine Sl.nil ?_
                                    refine At.weak [(0, _), (1, _), (2, _), (51, _), (53, _), (54, _), (117, _)] ⟨rfl, rfl, rfl, rfl, rfl, rfl, rfl, trivial⟩ ?_
                                    refine At.go ?_
                                    refine Sc.ret ?_
                                    refine At.block_ret ?_
                                    refine At.then_ret ?_
                                    refine At.ret1 rfl rfl ?_
                                    first
                                      | exact ⟨_, rfl, notD (fun h => by have := h.1; unfold mayA at this; omega), hf1⟩
                                      | exact ⟨_, rfl, notD (fun h => by have := h.1; unfold mayA at this; omega), hf1.draws 1⟩
                                      | exact ⟨_, rfl, yesD ⟨by unfold mayA; omega, fun h3 => by omega⟩, hf1⟩
                                      | exact ⟨_, rfl, yesD ⟨by unfold mayA; omega, fun h3 => by omega⟩, hf1.draws 1⟩
                                      | exact ⟨_, rfl, notD (fun h => h.2 (by omega) hnul), hf1⟩
                                      | exact ⟨_, rfl, yesD ⟨by unfold mayA; omega, fun h3 h0 => by obtain ⟨i, hi, e⟩ := List.getElem_of_mem h0; exact hgood i (by omega) (by simp [List.getD, hi, e])⟩, hf1⟩
                                ·
                                  refine Sl.calm (Cm.pick_t rfl rfl) rfl ?_
                                  refine Sl.calm (Cm.move rfl) rfl ?_
                                  refine Sl.skip rfl rfl rfl rfl ?_
                                  refine Sl.skip rfl rfl rfl rfl ?_
                                  refine Sl.skip rfl rfl rfl rfl ?_
                                  refine Sl.calm (Cm.pick_f rfl rfl) rfl ?_
                                  refine Sl.calm (Cm.move rfl) rfl ?_
                                  refine Sl.skip rfl rfl rfl rfl ?_
                                  refine Sl.skip rfl rfl rfl rfl ?_
                                  refine Sl.skip rfl rfl rfl rfl ?_
                                  refine Sl.calm (Cm.pick_f rfl rfl) rfl ?_
                                  refine Sl.calm (Cm.move rfl) rfl ?_
                                  refine Sl.skip rfl rfl rfl rfl ?_
                                  refine Sl.skip rfl rfl rfl rfl ?_
                                  refine Sl.skip rfl rfl rfl rfl ?_
                                  refine Sl.calm (Cm.pick_f rfl rfl) rfl ?_
                                  refine Sl.calm (Cm.move rfl) rfl ?_
                                  refine Sl.skip rfl rfl rfl rfl ?_
                                  refine Sl.skip rfl rfl rfl rfl ?_
                                  refine Sl.skip rfl rfl rfl rfl ?_
                                  refine Sl.calm (Cm.pick_f rfl rfl) rfl ?_
                                  refine Sl.calm (Cm.assign rfl) rfl ?_
                                  refine Sl.nil ?_
                                  refine At.weak [(0, _), (1, _), (2, _), (51, _), (53, _), (54, _), (117, _)] ⟨rfl, rfl, rfl, rfl, rfl, rfl, rfl, trivial⟩ ?_
                                  refine At.go ?_
                                  refine Sc.ret ?_
                                  refine At.block_ret ?_
                                  refine At.then_ret ?_
                                  refine At.ret1 rfl rfl ?_
                                  first
                                    | exact ⟨_, rfl, notD (fun h => by have := h.1; unfold mayA at this; omega), hf1⟩
                                    | exact ⟨_, rfl, notD (fun h => by have := h.1; unfold mayA at this; omega), hf1.draws 1⟩
                                    | exact ⟨_, rfl, yesD ⟨by unfold mayA; omega, fun h3 => by omega⟩, hf1⟩
                                    | exact ⟨_, rfl, yesD ⟨by unfold mayA; omega, fun h3 => by omega⟩, hf1.draws 1⟩
                                    | exact ⟨_, rfl, notD (fun h => h.2 (by omega) hnul), hf1⟩
                                    | exact ⟨_, rfl, yesD ⟨by unfold mayA; omega, fun h3 h0 => by obtain ⟨i, hi, e⟩ := List.getElem_of_mem h0; exact hgood i (by omega) (by simp [List.getD, hi, e])⟩, hf1⟩
                              ·
                                refine Sl.calm (Cm.pick_t rfl rfl) rfl ?_
                                refine Sl.calm (Cm.move rfl) rfl ?_
                                refine Sl.skip rfl rfl rfl rfl ?_
                                refine Sl.skip rfl rfl rfl rfl ?_
                                refine Sl.skip rfl rfl rfl rfl ?_
                                refine Sl.calm (Cm.pick_f rfl rfl) rfl ?_
                                refine Sl.calm (Cm.move rfl) rfl ?_
                                refine Sl.skip rfl rfl rfl rfl ?_
                                refine Sl.skip rfl rfl rfl rfl ?_
                                refine Sl.skip rfl rfl rfl rfl ?_
                                refine Sl.calm (Cm.pick_f rfl rfl) rfl ?_
                                refine Sl.calm (Cm.move rfl) rfl ?_
                                refine Sl.skip rfl rfl rfl rfl ?_
                                refine Sl.skip rfl rfl rfl rfl ?_
                                refine Sl.skip rfl rfl rfl rfl ?_
                                refine Sl.calm (Cm.pick_f rfl rfl) rfl ?_
                                refine Sl.calm (Cm.move rfl) rfl ?_
                                refine Sl.skip rfl rfl rfl rfl ?_
                                refine Sl.skip rfl rfl rfl rfl ?_
                                refine Sl.skip rfl rfl rfl rfl ?_
                                refine Sl.calm (Cm.pick_f rfl rfl) rfl ?_
                                refine Sl.calm (Cm.move rfl) rfl ?_
                                refine Sl.skip rfl rfl rfl rfl ?_
                                refine Sl.skip rfl rfl rfl rfl ?_
                                refine Sl.skip rfl rfl rfl rfl ?_
                                refine Sl.calm (Cm.pick_f rfl rfl) rfl ?_
                                refine Sl.calm (Cm.assign rfl) rfl ?_
                                refine Sl.nil ?_
                                refine At.weak [(0, _), (1, _), (2, _), (51, _), (53, _), (54, _), (117, _)] ⟨rfl, rfl, rfl, rfl, rfl, rfl, rfl, trivial⟩ ?_
                                refine At.go ?_
                                refine Sc.ret ?_
                                refine At.block_ret ?_
                                refine At.then_ret ?_
                                refine At.ret1 rfl rfl ?_
                                first
                                  | exact ⟨_, rfl, notD (fun h => by have := h.1; unfold mayA at this; omega), hf1⟩
                                  | exact ⟨_, rfl, notD (fun h => by have := h.1; unfold mayA at this; omega), hf1.draws 1⟩
                                  | exact ⟨_, rfl, yesD ⟨by unfold mayA; omega, fun h3 => by omega⟩, hf1⟩
                                  | exact ⟨_, rfl, yesD ⟨by unfold mayA; omega, fun h3 => by omega⟩, hf1.draws 1⟩
                                  | exact ⟨_, rfl, notD (fun h => h.2 (by omega) hnul), hf1⟩
                                  | exact ⟨_, rfl, yesD ⟨by unfold mayA; omega, fun h3 h0 => by obtain ⟨i, hi, e⟩ := List.getElem_of_mem h0; exact hgood i (by omega) (by simp [List.getD, hi, e])⟩, hf1⟩
                            ·
                              refine Sl.calm (Cm.pick_t rfl rfl) rfl ?_
                              refine Sl.calm (Cm.move rfl) rfl ?_
                              refine Sl.skip rfl rfl rfl rfl ?_
                              refine Sl.skip rfl rfl rfl rfl ?_
                              refine Sl.skip rfl rfl rfl rfl ?_
                              refine Sl.calm (Cm.pick_f rfl rfl) rfl ?_
                              refine Sl.calm (Cm.move rfl) rfl ?_
                              refine Sl.skip rfl rfl rfl rfl ?_
                              refine Sl.skip rfl rfl rfl rfl ?_
                              refine Sl.skip rfl rfl rfl rfl ?_
                              refine Sl.calm (Cm.pick_f rfl rfl) rfl ?_
                              refine Sl.calm (Cm.move rfl) rfl ?_
                              refine Sl.skip rfl rfl rfl rfl ?_
                              refine Sl.skip rfl rfl rfl rfl ?_
                              refine Sl.skip rfl rfl rfl rfl ?_
                              refine Sl.calm (Cm.pick_f rfl rfl) rfl ?_
                              refine Sl.calm (Cm.move rfl) rfl ?_
                              refine Sl.skip rfl rfl rfl rfl ?_
                              refine Sl.skip rfl rfl rfl rfl ?_
                              refine Sl.skip rfl rfl rfl rfl ?_
                              refine Sl.calm (Cm.pick_f rfl rfl) rfl ?_
                              refine Sl.calm (Cm.move rfl) rfl ?_
                              refine Sl.skip rfl rfl rfl rfl ?_
                              refine Sl.skip rfl rfl rfl rfl ?_
                              refine Sl.skip rfl rfl rfl rfl ?_
                              refine Sl.calm (Cm.pick_f rfl rfl) rfl ?_
                              refine Sl.calm (Cm.move rfl) rfl ?_
                              refine Sl.skip rfl rfl rfl rfl ?_
                              refine Sl.skip rfl rfl rfl rfl ?_
                              refine Sl.skip rfl rfl rfl rfl ?_
                              refine Sl.calm (Cm.pick_f rfl rfl) rfl ?_
                              refine Sl.calm (Cm.assign rfl) rfl ?_
                              refine Sl.nil ?_
                              refine At.weak [(0, _), (1, _), (2, _), (51, _), (53, _), (54, _), (117, _)] ⟨rfl, rfl, rfl, rfl, rfl, rfl, rfl, trivial⟩ ?_
                              refine At.go ?_
                              refine Sc.ret ?_
                              refine At.block_ret ?_
                              refine At.then_ret ?_
                              refine At.ret1 rfl rfl ?_
                              first
                                | exact ⟨_, rfl, notD (fun h => by have := h.1; unfold mayA at this; omega), hf1⟩
                                | exact ⟨_, rfl, notD (fun h => by have := h.1; unfold mayA at this; omega), hf1.draws 1⟩
                                | exact ⟨_, rfl, yesD ⟨by unfold mayA; omega, fun h3 => by omega⟩, hf1⟩
                                | exact ⟨_, rfl, yesD ⟨by unfold mayA; omega, fun h3 => by omega⟩, hf1.draws 1⟩
                                | exact ⟨_, rfl, notD (fun h => h.2 (by omega) hnul), hf1⟩
                                | exact ⟨_, rfl, yesD ⟨by unfold mayA; omega, fun h3 h0 => by obtain ⟨i, hi, e⟩ := List.getElem_of_mem h0; exact hgood i (by omega) (by simp [List.getD, hi, e])⟩, hf1⟩
                          ·
                            refine Sl.calm (Cm.move rfl) rfl ?_
                            refine Sl.skip rfl rfl rfl rfl ?_
                            refine Sl.skip rfl rfl rfl rfl ?_
                            refine Sl.skip rfl rfl rfl rfl ?_
                            refine Sl.calm (Cm.pick_f rfl rfl) rfl ?_
                            refine Sl.calm (Cm.move rfl) rfl ?_
                            refine Sl.skip rfl rfl rfl rfl ?_
                            refine Sl.skip rfl rfl rfl rfl ?_
                            refine Sl.skip rfl rfl rfl rfl ?_
                            refine Sl.calm (Cm.pick_f rfl rfl) rfl ?_
                            refine Sl.calm (Cm.move rfl) rfl ?_
                            refine Sl.skip rfl rfl rfl rfl ?_
                            refine Sl.skip rfl rfl rfl rfl ?_
                            refine Sl.skip rfl rfl rfl rfl ?_
                            refine Sl.calm (Cm.pick_f rfl rfl) rfl ?_
                            refine Sl.calm (Cm.move rfl) rfl ?_
                            refine Sl.skip rfl rfl rfl rfl ?_
                            refine Sl.skip rfl rfl rfl rfl ?_
                            refine Sl.skip rfl rfl rfl rfl ?_
                            refine Sl.calm (Cm.pick_f rfl rfl) rfl ?_
                            refine Sl.calm (Cm.move rfl) rfl ?_
                            refine Sl.skip rfl rfl rfl rfl ?_
                            refine Sl.skip rfl rfl rfl rfl ?_
                            refine Sl.skip rfl rfl rfl rfl ?_
                            refine Sl.calm (Cm.pick_f rfl rfl) rfl ?_
                            refine Sl.calm (Cm.move rfl) rfl ?_
                            refine Sl.skip rfl rfl rfl rfl ?_
                            refine Sl.skip rfl rfl rfl rfl ?_
                            refine Sl.skip rfl rfl rfl rfl ?_
                            refine Sl.calm (Cm.pick_f rfl rfl) rfl ?_
                            refine Sl.calm (Cm.move rfl) rfl ?_
                            refine Sl.skip rfl rfl rfl rfl ?_
                            refine Sl.skip rfl rfl rfl rfl ?_
                            refine Sl.skip rfl rfl rfl rfl ?_
                            refine Sl.calm (Cm.pick_f rfl rfl) rfl ?_
                            refine Sl.calm (Cm.assign rfl) rfl ?_
                            refine Sl.nil ?_
                            refine At.weak [(0, _), (1, _), (2, _), (51, _), (53, _), (54, _), (117, _)] ⟨rfl, rfl, rfl, rfl, rfl, rfl, rfl, trivial⟩ ?_
                            refine At.go ?_
                            refine Sc.ret ?_
                            refine At.block_ret ?_
                            refine At.then_ret ?_
                            refine At.ret1 rfl rfl ?_
                            first
                              | exact ⟨_, rfl, notD (fun h => by have := h.1; unfold mayA at this; omega), hf1⟩
                              | exact ⟨_, rfl, notD (fun h => by have := h.1; unfold mayA at this; omega), hf1.draws 1⟩
                              | exact ⟨_, rfl, yesD ⟨by unfold mayA; omega, fun h3 => by omega⟩, hf1⟩
                              | exact ⟨_, rfl, yesD ⟨by unfold mayA; omega, fun h3 => by omega⟩, hf1.draws 1⟩
                              | exact ⟨_, rfl, notD (fun h => h.2 (by omega) hnul), hf1⟩
                              | exact ⟨_, rfl, yesD ⟨by unfold mayA; omega, fun h3 h0 => by obtain ⟨i, hi, e⟩ := List.getElem_of_mem h0; exact hgood i (by omega) (by simp [List.getD, hi, e])⟩, hf1⟩
                        ·
                          refine Sl.calm (Cm.assign rfl) rfl ?_
                          refine Sl.nil ?_
                          refine At.weak [(0, _), (1, _), (2, _), (51, _), (53, _), (54, _), (117, _)] ⟨rfl, rfl, rfl, rfl, rfl, rfl, rfl, trivial⟩ ?_
                          refine At.go ?_
                          refine Sc.cond_f rfl ?_
                          refine Sc.seq ?_
                          refine Sc.region ?_
                          refine Sl.fork (Cm.eql rfl rfl) rfl (fun h158 => ?_) (fun h158 => ?_)
                          ·
                            refine Sl.calm (Cm.assign rfl) rfl ?_
                            refine Sl.nil ?_
                            refine At.weak [(0, _), (1, _), (2, _), (51, _), (53, _), (54, _), (117, _), (157, _)] ⟨rfl, rfl, rfl, rfl, rfl, rfl, rfl, rfl, trivial⟩ ?_
                            refine At.go ?_
                            refine Sc.cond_t rfl ?_
                            refine Sc.seq ?_
                            refine Sc.seq ?_
                            refine Sc.region ?_
                            refine Sl.calm (Cm.assign rfl) rfl ?_
                            refine Sl.nil ?_
                            refine At.go ?_
                            refine Sc.block ?_
                            refine Sc.loop (β := Nat) (fun k => [(1, .pointer (some ⟨W.heap.size, 0, none⟩)), (3, .int .i64 k)]) (fun k w => k ≤ T.length ∧ (∀ i, i < k → T.getD i 0 ≠ 0) ∧ w = w1) (fun k => T.length - k) 0 ⟨rfl, rfl, trivial⟩ ⟨Nat.zero_le _, by intro i hi; omega, rfl⟩ ?_
                            rintro k w2 ⟨hk, hgood, hw2⟩
                            subst hw2
                            refine Sc.seq ?_
                            refine Sc.seq ?_
                            refine Sc.region ?_
                            refine Sl.calm (Cm.move rfl) rfl ?_
                            refine Sl.calm (Cm.field fld33_10 rfl) rfl ?_
                            refine Sl.calm (Cm.ld sca9 rfl (cellF hg1 rfl)) rfl ?_
                            refine Sl.calm (Cm.lenBs ty9 rfl) rfl ?_
                            refine Sl.fork (Cm.lss rfl rfl) rfl (fun h163 => ?_) (fun h163 => ?_)
                            ·
                              refine Sl.nil ?_
                              refine At.weak [(1, _), (3, _), (163, _)] ⟨rfl, rfl, rfl, trivial⟩ ?_
                              refine At.go ?_
                              refine Sc.cond_t rfl ?_
                              refine Sc.skip ?_
                              refine At.go ?_
                              refine Sc.seq ?_
                              refine Sc.block ?_
                              refine Sc.seq ?_
                              refine Sc.region ?_
                              refine Sl.calm (Cm.field fld33_10 rfl) rfl ?_
                              refine Sl.calm (Cm.ld sca9 rfl (cellF hg1 rfl)) rfl ?_
                              refine Sl.calm (Cm.move rfl) rfl ?_
                              refine Sl.calm (Cm.idxS ty9 rfl rfl (by omega)) rfl ?_
                              refine Sl.fork (Cm.eql rfl rfl) rfl (fun h170 => ?_) (fun h170 => ?_)
                              ·
                                have hnul : (0 : UInt8) ∈ T := by
                                  have e : T.getD k 0 = 0 := UInt8.toNat_inj.1 (by have : ((T.getD ((k : Int)).toNat 0).toNat : Int) = 0 := h170; have e2 : ((k : Int)).toNat = k := rfl; rw [e2] at this; show _ = 0; omega)
                                  have hk2 : k < T.length := by omega
                                  rw [List.getD, List.getElem?_eq_getElem hk2] at e
                                  rw [← e]; exact List.getElem_mem hk2
                                refine Sl.nil ?_
                                refine At.weak [(1, _), (3, _), (163, _), (170, _)] ⟨rfl, rfl, rfl, rfl, trivial⟩ ?_
                                refine At.go ?_
                                refine Sc.cond_t rfl ?_
                                refine Sc.seq ?_
                                refine Sc.region ?_
                                refine Sl.calm (Cm.assign rfl) rfl ?_
                                refine Sl.nil ?_
                                refine At.go ?_
                                refine Sc.ret ?_
                                refine At.block_ret ?_
                                refine At.then_ret ?_
                                refine At.then_ret ?_
                                refine At.block_ret ?_
                                refine At.then_ret ?_
                                refine At.block_ret ?_
                                refine At.then_ret ?_
                                refine At.ret1 rfl rfl ?_
                                first
                                  | exact ⟨_, rfl, notD (fun h => by have := h.1; unfold mayA at this; omega), hf1⟩
                                  | exact ⟨_, rfl, notD (fun h => by have := h.1; unfold mayA at this; omega), hf1.draws 1⟩
                                  | exact ⟨_, rfl, yesD ⟨by unfold mayA; omega, fun h3 => by omega⟩, hf1⟩
                                  | exact ⟨_, rfl, yesD ⟨by unfold mayA; omega, fun h3 => by omega⟩, hf1.draws 1⟩
                                  | exact ⟨_, rfl, notD (fun h => h.2 (by omega) hnul), hf1⟩
                                  | exact ⟨_, rfl, yesD ⟨by unfold mayA; omega, fun h3 h0 => by obtain ⟨i, hi, e⟩ := List.getElem_of_mem h0; exact hgood i (by omega) (by simp [List.getD, hi, e])⟩, hf1⟩
                              ·
                                refine Sl.nil ?_
                                refine At.weak [(1, _), (3, _), (163, _), (170, _)] ⟨rfl, rfl, rfl, rfl, trivial⟩ ?_
                                refine At.go ?_
                                refine Sc.cond_f rfl ?_
                                refine Sc.skip ?_
                                refine At.block_normal ?_
                                refine At.go ?_
                                refine Sc.region ?_
                                refine Sl.calm (Cm.move rfl) rfl ?_
                                refine Sl.calm (Cm.add64 rfl rfl (by omega)) rfl ?_
                                refine Sl.calm (Cm.assign rfl) rfl ?_
                                refine Sl.nil ?_
                                refine At.again (k + 1) ⟨rfl, rfl, trivial⟩ ?_ (by show T.length - (k + 1) < T.length - k; omega)
                                refine ⟨by omega, fun i hi => ?_, rfl⟩
                                by_cases hik : i = k
                                · subst hik; intro e; exact h170 (by rw [show ((i : Int)).toNat = i from rfl, e]; rfl)
                                · exact hgood i (by omega)
                            ·
                              refine Sl.nil ?_
                              refine At.weak [(1, _), (3, _), (163, _)] ⟨rfl, rfl, rfl, trivial⟩ ?_
                              refine At.go ?_
                              refine Sc.cond_f rfl ?_
                              refine Sc.exit ?_
                              refine At.then_exit ?_
                              refine At.then_exit ?_
                              refine At.block_hit ?_
                              refine At.go ?_
                              refine Sc.seq ?_
                              refine Sc.region ?_
                              refine Sl.calm (Cm.field fld33_10 rfl) rfl ?_
                              refine Sl.calm (Cm.ld sca9 rfl (cellF hg1 rfl)) rfl ?_
                              refine Sl.calm (Cm.lenBs ty9 rfl) rfl ?_
                              refine Sl.fork (Cm.geq rfl rfl) rfl (fun h174 => ?_) (fun h174 => ?_)
                              ·
                                refine Sl.calm (Cm.move rfl) rfl ?_
                                refine Sl.want rfl rfl (Cm.field fld33_10 rfl) rfl ?_
                                refine Sl.want rfl rfl (Cm.ld sca9 rfl (cellF hg1 rfl)) rfl ?_
                                refine Sl.want rfl rfl (Cm.lenBs ty9 rfl) rfl ?_
                                refine Sl.forkWant rfl rfl (Cm.leq rfl rfl) rfl (fun h179 => ?_) (fun h179 => ?_)
                                ·
                                  refine Sl.calm (Cm.pick_t rfl rfl) rfl ?_
                                  refine Sl.calm (Cm.move rfl) rfl ?_
                                  refine Sl.want rfl rfl (Cm.field fld33_6 rfl) rfl ?_
                                  refine Sl.want rfl rfl (Cm.ld sca3 rfl (cellF hg1 rfl)) rfl ?_
                                  refine Sl.forkWant rfl rfl (Cm.eql rfl rfl) rfl (fun h184 => ?_) (fun h184 => ?_)
                                  ·
                                    refine Sl.calm (Cm.pick_t rfl rfl) rfl ?_
                                    refine Sl.calm (Cm.move rfl) rfl ?_
                                    refine Sl.want rfl rfl (Cm.field fld33_7 rfl) rfl ?_
                                    refine Sl.want rfl rfl (Cm.ld sca3 rfl (cellF hg1 rfl)) rfl ?_
                                    refine Sl.forkWant rfl rfl (Cm.eql rfl rfl) rfl (fun h189 => ?_) (fun h189 => ?_)
                                    ·
                                      refine Sl.calm (Cm.pick_t rfl rfl) rfl ?_
                                      refine Sl.calm (Cm.move rfl) rfl ?_
                                      refine Sl.want rfl rfl (Cm.field fld33_8 rfl) rfl ?_
                                      refine Sl.want rfl rfl (Cm.ld sca3 rfl (cellF hg1 rfl)) rfl ?_
                                      refine Sl.forkWant rfl rfl (Cm.eql rfl rfl) rfl (fun h194 => ?_) (fun h194 => ?_)
                                      ·
                                        refine Sl.calm (Cm.pick_t rfl rfl) rfl ?_
                                        refine Sl.calm (Cm.move rfl) rfl ?_
                                        refine Sl.want rfl rfl (Cm.field fld33_9 rfl) rfl ?_
                                        refine Sl.want rfl rfl (Cm.ld sca3 rfl (cellF hg1 rfl)) rfl ?_
                                        refine Sl.forkWant rfl rfl (Cm.eql rfl rfl) rfl (fun h199 => ?_) (fun h199 => ?_)
                                        ·
                                          refine Sl.calm (Cm.pick_t rfl rfl) rfl ?_
                                          refine Sl.calm (Cm.assign rfl) rfl ?_
                                          refine Sl.nil ?_
                                          refine At.weak [(1, _), (2, _), (3, _), (163, _)] ⟨rfl, rfl, rfl, rfl, trivial⟩ ?_
                                          refine At.go ?_
                                          refine Sc.ret ?_
                                          refine At.block_ret ?_
                                          refine At.then_ret ?_
                                          refine At.ret1 rfl rfl ?_
                                          first
                                            | exact ⟨_, rfl, notD (fun h => by have := h.1; unfold mayA at this; omega), hf1⟩
                                            | exact ⟨_, rfl, notD (fun h => by have := h.1; unfold mayA at this; omega), hf1.draws 1⟩
                                            | exact ⟨_, rfl, yesD ⟨by unfold mayA; omega, fun h3 => by omega⟩, hf1⟩
                                            | exact ⟨_, rfl, yesD ⟨by unfold mayA; omega, fun h3 => by omega⟩, hf1.draws 1⟩
                                            | exact ⟨_, rfl, notD (fun h => h.2 (by omega) hnul), hf1⟩
                                            | exact ⟨_, rfl, yesD ⟨by unfold mayA; omega, fun h3 h0 => by obtain ⟨i, hi, e⟩ := List.getElem_of_mem h0; exact hgood i (by omega) (by simp [List.getD, hi, e])⟩, hf1⟩
                                        ·
                                          refine Sl.calm (Cm.pick_t rfl rfl) rfl ?_
                                          refine Sl.calm (Cm.assign rfl) rfl ?_
                                          refine Sl.nil ?_
                                          refine At.weak [(1, _), (2, _), (3, _), (163, _)] ⟨rfl, rfl, rfl, rfl, trivial⟩ ?_
                                          refine At.go ?_
                                          refine Sc.ret ?_
                                          refine At.block_ret ?_
                                          refine At.then_ret ?_
                                          refine At.ret1 rfl rfl ?_
                                          first
                                            | exact ⟨_, rfl, notD (fun h => by have := h.1; unfold mayA at this; omega), hf1⟩
                                            | exact ⟨_, rfl, notD (fun h => by have := h.1; unfold mayA at this; omega), hf1.draws 1⟩
                                            | exact ⟨_, rfl, yesD ⟨by unfold mayA; omega, fun h3 => by omega⟩, hf1⟩
                                            | exact ⟨_, rfl, yesD ⟨by unfold mayA; omega, fun h3 => by omega⟩, hf1.draws 1⟩
                                            | exact ⟨_, rfl, notD (fun h => h.2 (by omega) hnul), hf1⟩
                                            | exact ⟨_, rfl, yesD ⟨by unfold mayA; omega, fun h3 h0 => by obtain ⟨i, hi, e⟩ := List.getElem_of_mem h0; exact hgood i (by omega) (by simp [List.getD, hi, e])⟩, hf1⟩
                                      ·
                                        refine Sl.calm (Cm.pick_t rfl rfl) rfl ?_
                                        refine Sl.calm (Cm.move rfl) rfl ?_
                                        refine Sl.skip rfl rfl rfl rfl ?_
                                        refine Sl.skip rfl rfl rfl rfl ?_
                                        refine Sl.skip rfl rfl rfl rfl ?_
                                        refine Sl.calm (Cm.pick_f rfl rfl) rfl ?_
                                        refine Sl.calm (Cm.assign rfl) rfl ?_
                                        refine Sl.nil ?_
                                        refine At.weak [(1, _), (2, _), (3, _), (163, _)] ⟨rfl, rfl, rfl, rfl, trivial⟩ ?_
                                        refine At.go ?_
                                        refine Sc.ret ?_
                                        refine At.block_ret ?_
                                        refine At.then_ret ?_
                                        refine At.ret1 rfl rfl ?_
                                        first
                                          | exact ⟨_, rfl, notD (fun h => by have := h.1; unfold mayA at this; omega), hf1⟩
                                          | exact ⟨_, rfl, notD (fun h => by have := h.1; unfold mayA at this; omega), hf1.draws 1⟩
                                          | exact ⟨_, rfl, yesD ⟨by unfold mayA; omega, fun h3 => by omega⟩, hf1⟩
                                          | exact ⟨_, rfl, yesD ⟨by unfold mayA; omega, fun h3 => by omega⟩, hf1.draws 1⟩
                                          | exact ⟨_, rfl, notD (fun h => h.2 (by omega) hnul), hf1⟩
                                          | exact ⟨_, rfl, yesD ⟨by unfold mayA; omega, fun h3 h0 => by obtain ⟨i, hi, e⟩ := List.getElem_of_mem h0; exact hgood i (by omega) (by simp [List.getD, hi, e])⟩, hf1⟩
                                    ·
                                      refine Sl.calm (Cm.pick_t rfl rfl) rfl ?_
                                      refine Sl.calm (Cm.move rfl) rfl ?_
                                      refine Sl.skip rfl rfl rfl rfl ?_
                                      refine Sl.skip rfl rfl rfl rfl ?_
                                      refine Sl.skip rfl rfl rfl rfl ?_
                                      refine Sl.calm (Cm.pick_f rfl rfl) rfl ?_
                                      refine Sl.calm (Cm.move rfl) rfl ?_
                                      refine Sl.skip rfl rfl rfl rfl ?_
                                      refine Sl.skip rfl rfl rfl rfl ?_
                                      refine Sl.skip rfl rfl rfl rfl ?_
                                      refine Sl.calm (Cm.pick_f rfl rfl) rfl ?_
                                      refine Sl.calm (Cm.assign rfl) rfl ?_
                                      refine Sl.nil ?_
                                      refine At.weak [(1, _), (2, _), (3, _), (163, _)] ⟨rfl, rfl, rfl, rfl, trivial⟩ ?_
                                      refine At.go ?_
                                      refine Sc.ret ?_
                                      refine At.block_ret ?_
                                      refine At.then_ret ?_
                                      refine At.ret1 rfl rfl ?_
                                      first
                                        | exact ⟨_, rfl, notD (fun h => by have := h.1; unfold mayA at this; omega), hf1⟩
                                        | exact ⟨_, rfl, notD (fun h => by have := h.1; unfold mayA at this; omega), hf1.draws 1⟩
                                        | exact ⟨_, rfl, yesD ⟨by unfold mayA; omega, fun h3 => by omega⟩, hf1⟩
                                        | exact ⟨_, rfl, yesD ⟨by unfold mayA; omega, fun h3 => by omega⟩, hf1.draws 1⟩
                                        | exact ⟨_, rfl, notD (fun h => h.2 (by omega) hnul), hf1⟩
                                        | exact ⟨_, rfl, yesD ⟨by unfold mayA; omega, fun h3 h0 => by obtain ⟨i, hi, e⟩ := List.getElem_of_mem h0; exact hgood i (by omega) (by simp [List.getD, hi, e])⟩, hf1⟩
                                  ·
                                    refine Sl.calm (Cm.pick_t rfl rfl) rfl ?_
                                    refine Sl.calm (Cm.move rfl) rfl ?_
                                    refine Sl.skip rfl rfl rfl rfl ?_
                                    refine Sl.skip rfl rfl rfl rfl ?_
                                    refine Sl.skip rfl rfl rfl rfl ?_
                                    refine Sl.calm (Cm.pick_f rfl rfl) rfl ?_
                                    refine Sl.calm (Cm.move rfl) rfl ?_
                                    refine Sl.skip rfl rfl rfl rfl ?_
                                    refine Sl.skip rfl rfl rfl rfl ?_
                                    refine Sl.skip rfl rfl rfl rfl ?_
                                    refine Sl.calm (Cm.pick_f rfl rfl) rfl ?_
                                    refine Sl.calm (Cm.move rfl) rfl ?_
                                    refine Sl.skip rfl rfl rfl rfl ?_
                                    refine Sl.skip rfl rfl rfl rfl ?_
                                    refine Sl.skip rfl rfl rfl rfl ?_
                                    refine Sl.calm (Cm.pick_f rfl rfl) rfl ?_
                                    refine Sl.calm (Cm.assign rfl) rfl ?_
                                    refine Sl.nil ?_
                                    refine At.weak [(1, _), (2, _), (3, _), (163, _)] ⟨rfl, rfl, rfl, rfl, trivial⟩ ?_
                                    refine At.go ?_
                                    refine Sc.ret ?_
                                    refine At.block_ret ?_
                                    refine At.then_ret ?_
                                    refine At.ret1 rfl rfl ?_
                                    first
                                      | exact ⟨_, rfl, notD (fun h => by have := h.1; unfold mayA at this; omega), hf1⟩
                                      | exact ⟨_, rfl, notD (fun h => by have := h.1; unfold mayA at this; omega), hf1.draws 1⟩
                                      | exact ⟨_, rfl, yesD ⟨by unfold mayA; omega, fun h3 => by omega⟩, hf1⟩
                                      | exact ⟨_, rfl, yesD ⟨by unfold mayA; omega, fun h3 => by omega⟩, hf1.draws 1⟩
                                      | exact ⟨_, rfl, notD (fun h => h.2 (by omega) hnul), hf1⟩
                                      | exact ⟨_, rfl, yesD ⟨by unfold mayA; omega, fun h3 h0 => by obtain ⟨i, hi, e⟩ := List.getElem_of_mem h0; exact hgood i (by omega) (by simp [List.getD, hi, e])⟩, hf1⟩
                                ·
                                  refine Sl.calm (Cm.pick_t rfl rfl) rfl ?_
                                  refine Sl.calm (Cm.move rfl) rfl ?_
                                  refine Sl.skip rfl rfl rfl rfl ?_
                                  refine Sl.skip rfl rfl rfl rfl ?_
                                  refine Sl.skip rfl rfl rfl rfl ?_
                                  refine Sl.calm (Cm.pick_f rfl rfl) rfl ?_
                                  refine Sl.calm (Cm.move rfl) rfl ?_
                                  refine Sl.skip rfl rfl rfl rfl ?_
                                  refine Sl.skip rfl rfl rfl rfl ?_
                                  refine Sl.skip rfl rfl rfl rfl ?_
                                  refine Sl.calm (Cm.pick_f rfl rfl) rfl ?_
                                  refine Sl.calm (Cm.move rfl) rfl ?_
                                  refine Sl.skip rfl rfl rfl rfl ?_
                                  refine Sl.skip rfl rfl rfl rfl ?_
                                  refine Sl.skip rfl rfl rfl rfl ?_
                                  refine Sl.calm (Cm.pick_f rfl rfl) rfl ?_
                                  refine Sl.calm (Cm.move rfl) rfl ?_
                                  refine Sl.skip rfl rfl rfl rfl ?_
                                  refine Sl.skip rfl rfl rfl rfl ?_
                                  refine Sl.skip rfl rfl rfl rfl ?_
                                  refine Sl.calm (Cm.pick_f rfl rfl) rfl ?_
                                  refine Sl.calm (Cm.assign rfl) rfl ?_
                                  refine Sl.nil ?_
                                  refine At.weak [(1, _), (2, _), (3, _), (163, _)] ⟨rfl, rfl, rfl, rfl, trivial⟩ ?_
                                  refine At.go ?_
                                  refine Sc.ret ?_
                                  refine At.block_ret ?_
                                  refine At.then_ret ?_
                                  refine At.ret1 rfl rfl ?_
                                  first
                                    | exact ⟨_, rfl, notD (fun h => by have := h.1; unfold mayA at this; omega), hf1⟩
                                    | exact ⟨_, rfl, notD (fun h => by have := h.1; unfold mayA at this; omega), hf1.draws 1⟩
                                    | exact ⟨_, rfl, yesD ⟨by unfold mayA; omega, fun h3 => by omega⟩, hf1⟩
                                    | exact ⟨_, rfl, yesD ⟨by unfold mayA; omega, fun h3 => by omega⟩, hf1.draws 1⟩
                                    | exact ⟨_, rfl, notD (fun h => h.2 (by omega) hnul), hf1⟩
                                    | exact ⟨_, rfl, yesD ⟨by unfold mayA; omega, fun h3 h0 => by obtain ⟨i, hi, e⟩ := List.getElem_of_mem h0; exact hgood i (by omega) (by simp [List.getD, hi, e])⟩, hf1⟩
                              ·
                                refine Sl.calm (Cm.move rfl) rfl ?_
                                refine Sl.skip rfl rfl rfl rfl ?_
                                refine Sl.skip rfl rfl rfl rfl ?_
                                refine Sl.skip rfl rfl rfl rfl ?_
                                refine Sl.skip rfl rfl rfl rfl ?_
                                refine Sl.calm (Cm.pick_f rfl rfl) rfl ?_
                                refine Sl.calm (Cm.move rfl) rfl ?_
                                refine Sl.skip rfl rfl rfl rfl ?_
                                refine Sl.skip rfl rfl rfl rfl ?_
                                refine Sl.skip rfl rfl rfl rfl ?_
                                refine Sl.calm (Cm.pick_f rfl rfl) rfl ?_
                                refine Sl.calm (Cm.move rfl) rfl ?_
                                refine Sl.skip rfl rfl rfl rfl ?_
                                refine Sl.skip rfl rfl rfl rfl ?_
                                refine Sl.skip rfl rfl rfl rfl ?_
                                refine Sl.calm (Cm.pick_f rfl rfl) rfl ?_
                                refine Sl.calm (Cm.move rfl) rfl ?_
                                refine Sl.skip rfl rfl rfl rfl ?_
                                refine Sl.skip rfl rfl rfl rfl ?_
                                refine Sl.skip rfl rfl rfl rfl ?_
                                refine Sl.calm (Cm.pick_f rfl rfl) rfl ?_
                                refine Sl.calm (Cm.move rfl) rfl ?_
                                refine Sl.skip rfl rfl rfl rfl ?_
                                refine Sl.skip rfl rfl rfl rfl ?_
                                refine Sl.skip rfl rfl rfl rfl ?_
                                refine Sl.calm (Cm.pick_f rfl rfl) rfl ?_
                                refine Sl.calm (Cm.assign rfl) rfl ?_
                                refine Sl.nil ?_
                                refine At.weak [(1, _), (2, _), (3, _), (163, _)] ⟨rfl, rfl, rfl, rfl, trivial⟩ ?_
                                refine At.go ?_
                                refine Sc.ret ?_
                                refine At.block_ret ?_
                                refine At.then_ret ?_
                                refine At.ret1 rfl rfl ?_
                                first
                                  | exact ⟨_, rfl, notD (fun h => by have := h.1; unfold mayA at this; omega), hf1⟩
                                  | exact ⟨_, rfl, notD (fun h => by have := h.1; unfold mayA at this; omega), hf1.draws 1⟩
                                  | exact ⟨_, rfl, yesD ⟨by unfold mayA; omega, fun h3 => by omega⟩, hf1⟩
                                  | exact ⟨_, rfl, yesD ⟨by unfold mayA; omega, fun h3 => by omega⟩, hf1.draws 1⟩
                                  | exact ⟨_, rfl, notD (fun h => h.2 (by omega) hnul), hf1⟩
                                  | exact ⟨_, rfl, yesD ⟨by unfold mayA; omega, fun h3 h0 => by obtain ⟨i, hi, e⟩ := List.getElem_of_mem h0; exact hgood i (by omega) (by simp [List.getD, hi, e])⟩, hf1⟩
                          ·
                            refine Sl.calm (Cm.assign rfl) rfl ?_
                            refine Sl.nil ?_
                            refine At.weak [(0, _), (1, _), (2, _), (51, _), (53, _), (54, _), (117, _), (157, _)] ⟨rfl, rfl, rfl, rfl, rfl, rfl, rfl, rfl, trivial⟩ ?_
                            refine At.go ?_
                            refine Sc.cond_f rfl ?_
                            refine Sc.skip ?_
                            refine At.block_normal ?_
                            refine At.go ?_
                            refine Sc.seq ?_
                            refine Sc.region ?_
                            refine Sl.calm (Cm.assign rfl) rfl ?_
                            refine Sl.nil ?_
                            refine At.go ?_
                            refine Sc.ret ?_
                            refine At.ret1 rfl rfl ?_
                            first
                              | exact ⟨_, rfl, notD (fun h => by have := h.1; unfold mayA at this; omega), hf1⟩
                              | exact ⟨_, rfl, notD (fun h => by have := h.1; unfold mayA at this; omega), hf1.draws 1⟩
                              | exact ⟨_, rfl, yesD ⟨by unfold mayA; omega, fun h3 => by omega⟩, hf1⟩
                              | exact ⟨_, rfl, yesD ⟨by unfold mayA; omega, fun h3 => by omega⟩, hf1.draws 1⟩
                              | exact ⟨_, rfl, notD (fun h => h.2 (by omega) hnul), hf1⟩
                              | exact ⟨_, rfl, yesD ⟨by unfold mayA; omega, fun h3 h0 => by obtain ⟨i, hi, e⟩ := List.getElem_of_mem h0; exact hgood i (by omega) (by simp [List.getD, hi, e])⟩, hf1⟩
end Go.Proofs.Ytoaplldahbbaiaa
