/- bytes.Clone. No condition beyond the bounds that each states. -/
import Derived.Test.YtpnfjfbfgaiolaaDoorGenk
namespace Go.Proofs.YtpnfjfbfgaiolaaDoor
open Go Go.RowKit
set_option linter.unusedVariables false

def CloneB (W : World) (xs : List UInt8) : Value → World → Prop := fun v w' => ∃ ao' cap', v = .slice ao' xs.length cap' ∧ Own b8 5 w'.heap ao' cap' xs ∧ Fr W.heap.size ao' ∧ Foot nob W w'

theorem clone_nil (cap : Nat) (xs : List UInt8) (W : World) (hv : Vw b8 W.heap none cap xs) : Calls Tryd.prog 25 [.slice none xs.length cap].toArray W (Ret (CloneB W xs)) := by
  have hx : xs = [] := List.eq_nil_of_length_eq_zero (by
    rcases Nat.eq_zero_or_pos xs.length with h | h
    · exact h
    · exact absurd rfl (hv.non (by omega)))
  subst hx
  refine calls_of_sc 8 [(0, _)] Tryd.func25 rfl rfl rfl (enter_slots ⟨rfl, trivial⟩) ?_
  refine Sc.seq ?_
  refine Sc.region ?_
  refine Sl.calm (Cm.assign rfl) rfl ?_
  refine Sl.nil ?_
  refine At.go ?_
  refine Sc.seq ?_
  refine Sc.seq ?_
  refine Sc.region ?_
  refine Sl.calm (Cm.move rfl) rfl ?_
  refine Sl.calm (Cm.eqlSlNil sl23 rfl rfl) rfl ?_
  refine Sl.nil ?_
  refine At.weak [(0, _), (2, _), (4, _)] ⟨rfl, rfl, rfl, trivial⟩ ?_
  refine At.go ?_
  refine Sc.cond_t rfl ?_
  refine Sc.seq ?_
  refine Sc.region ?_
  refine Sl.calm (Cm.assign rfl) rfl ?_
  refine Sl.nil ?_
  refine At.go ?_
  refine Sc.ret ?_
  refine At.then_ret ?_
  refine At.ret1 rfl rfl ?_
  exact ⟨_, rfl, none, 0, rfl, Own.nil, Fr.none, Foot.refl _ _⟩
theorem clone_some (a : Addr) (cap : Nat) (xs : List UInt8) (W : World) (hv : Vw b8 W.heap (some a) cap xs) (hb : xs.length ≤ 140737488355328) : Calls Tryd.prog 25 [.slice (some a) xs.length cap].toArray W (Ret (CloneB W xs)) := by
  have hl := hv.len63
  refine calls_of_sc 8 [(0, _)] Tryd.func25 rfl rfl rfl (enter_slots ⟨rfl, trivial⟩) ?_
  refine Sc.seq ?_
  refine Sc.region ?_
  refine Sl.calm (Cm.assign rfl) rfl ?_
  refine Sl.nil ?_
  refine At.go ?_
  refine Sc.seq ?_
  refine Sc.seq ?_
  refine Sc.region ?_
  refine Sl.calm (Cm.move rfl) rfl ?_
  refine Sl.calm (Cm.eqlSlNil sl23 rfl rfl) rfl ?_
  refine Sl.nil ?_
  refine At.weak [(0, _), (2, _), (4, _)] ⟨rfl, rfl, rfl, trivial⟩ ?_
  refine At.go ?_
  refine Sc.cond_f rfl ?_
  refine Sc.skip ?_
  refine At.go ?_
  refine Sc.seq ?_
  refine Sc.region ?_
  refine Sl.lit0 b8 sl23 rfl ?_
  intro w1 ho1 hs1 hf1
  refine Sl.calm (Cm.move rfl) rfl ?_
  refine Sl.append b8_one sl23 rfl rfl ho1 (hv.grow hf1) (by simp only [List.length_nil]; omega) (by simp only [List.length_nil]; unfold maxLen; omega) rfl ?_
  intro ao2 c2 w2 ho2 hf2 hr2 hn2
  refine Sl.calm (Cm.assign rfl) rfl ?_
  refine Sl.nil ?_
  refine At.weak [(0, _), (2, _), (4, _)] ⟨rfl, rfl, rfl, trivial⟩ ?_
  refine At.go ?_
  refine Sc.ret ?_
  refine At.ret1 rfl rfl ?_
  have hfr : Fr W.heap.size (some (⟨W.heap.size, 0, none⟩ : Addr)) := fun a ha => by cases ha; exact Nat.le_refl _
  refine ⟨_, rfl, ao2, c2, rfl, ho2, fun a ha => ?_, hf1.trans_to hf2 hfr.step⟩
  rcases hr2 a ha with h | h
  · exact hfr a h
  · have := hf1.size; omega
theorem clone_ok (ao : Option Addr) (cap : Nat) (xs : List UInt8) (W : World) (hv : Vw b8 W.heap ao cap xs) (hb : xs.length ≤ 140737488355328) : Calls Tryd.prog 25 [.slice ao xs.length cap].toArray W (Ret (CloneB W xs)) := by
  cases ao with
  | none => exact clone_nil cap xs W hv
  | some a => exact clone_some a cap xs W hv hb

end Go.Proofs.YtpnfjfbfgaiolaaDoor
