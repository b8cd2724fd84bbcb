/- The law TreeLooks returns true for every input. -/
import Derived.Test.YtpnfjfbfgaiolaaTsJ
import Derived.Test.YtpnfjfbfgaiolaaLiftN
namespace Go.Proofs.Ytpnfjfbfgaiolaa.treeLooks
open Go.ChangeShapes Go.WideShapes Go.ChangeAt Go.RowKit
open Go.ChangeMaps (open_string shut_string)
set_option linter.unusedVariables false

theorem own : ownKnob Try.prog.godebug = none := by kernel_rfl
theorem laidOut : laidOutB Try.prog = true := by kernel_rfl

set_option maxRecDepth 100000 in
theorem lifted (os : Os) (started : os.Started) (H : Type) (enc : TypeId × Value → H) :
    ReturnsInHanded {} Try.checked os 5 .any (Rows.treeLooksSpec.pre6 enc Try.prog Try.f5 Rows.treeLooksRow.domain false) (Rows.treeLooksSpec.post enc Try.prog Try.f5 false true false false) := by
  refine returnsInHanded_of_change (C := Try.checked) own started (by kernel_rfl) Try.func5
    (ChangeSpec.witness6 (enc := enc) (C := Try.checked) false ⟨#[], #[.slice none 0 0, .slice none 0 0, .int .i64 0], []⟩ 8 (by kernel_rfl) (by kernel_rfl) (by kernel_rfl) (by kernel_rfl)) ?_
  intro W base args ds gs before hval0 hW hcnd _
  have hval : ∀ (j : Nat) t v, Try.f5.params[j]? = some t → args[j]? = some v → Value.okWide Try.prog W .any base t v := hval0
  have hW' := hW
  obtain ⟨p, q, hA0, hV, rfl, hfz, hnd⟩ := hW
  have hA : DataW.TrodAll enc Try.prog W 0 (fun _ => true) true Try.f5.params.toList args.toList ds p := hA0
  rw [Try.params5] at hA hval
  obtain ⟨v0, vs0, d0, ds0, p0, q0, hargs, rfl, rfl, h0, r0⟩ := trodAll_cons hA
  obtain ⟨v1, vs1, d1, ds1, p1, q1, rfl, rfl, rfl, h1, r1⟩ := trodAll_cons r0
  obtain ⟨v2, vs2, d2, ds2, p2, q2, rfl, rfl, rfl, h2, r2⟩ := trodAll_cons r1
  obtain ⟨rfl, rfl, rfl⟩ := trodAll_nil r2
  obtain rfl : args = #[v0, v1, v2] := by cases args; simp_all
  obtain ⟨rfl, rfl⟩ := trodVars_none hV
  have k0 := h0
  have lt0 : ∀ x ∈ p0, x.block < W.heap.size := by obtain ⟨m, hm⟩ := k0; exact DataW.trod_lt m _ _ _ hm
  obtain ⟨a0, cap0, x0, rfl, hv0, hw0⟩ := open_nodes Try.underlying22 (⟨Try.underlying34, by kernel_rfl, rfl, by kernel_rfl, Try.underlying28, Try.underlying9, by kernel_rfl, Try.underlying3, Try.underlying3, Try.underlying30, rfl, by kernel_rfl, Try.underlying3, Try.underlying3, Try.underlying3, Try.underlying31, Try.underlying5, by kernel_rfl, Try.underlying9, Try.underlying32, Try.underlying54, by kernel_rfl, ⟨rfl, rfl⟩, ⟨by kernel_rfl, by kernel_rfl⟩, Try.underlying9, Try.underlying31, Try.underlying5, by kernel_rfl, Try.underlying4⟩) h0 (by obtain ⟨a, n, c, h⟩ := okWide_slice Try.underlying22 (hval 0 22 v0 rfl rfl); exact ⟨a, n, c, h⟩)
  have k1 := h1
  have lt1 : ∀ x ∈ p1, x.block < W.heap.size := by obtain ⟨m, hm⟩ := k1; exact DataW.trod_lt m _ _ _ hm
  obtain ⟨z1, x1, rfl, hv1, hw1⟩ : ∃ (z : Hd) (l : List (List UInt8)), v1 = hd z ∧ NmV (fun k => k < W.heap.size) W.heap z l ∧ ∀ s ∈ l, s.length ≤ maxLen := by
    obtain ⟨fu, hfu⟩ := h1
    obtain ⟨a, n, c, h⟩ := okWide_slice Try.underlying28 (hval 1 28 v1 rfl rfl)
    subst h
    exact open_strs Try.underlying28 Try.underlying9 (by kernel_rfl) hfu
  obtain ⟨z2, rfl, rfl, rfl, wf2⟩ := open_int Try.underlying3 (hval 2 3 v2 rfl rfl) h2
  clear hA0 hval0
  refine (treeLooks_ok a0 cap0 x0 z1 x1 z2 W hv0 hv1).mono fun e W' hR => ?_
  obtain ⟨he, bel⟩ := ret_true hR
  subst he
  exact ⟨_, rfl, _, _, _, [], _, [], hW', trodAll_mk1 (shut_bool Try.underlying4 _), (trodAll_cons_mk (Below.trod laidOut (by kernel_rfl) (of_decide_eq_true (by kernel_rfl)) k0 bel lt0) (trodAll_cons_mk (Below.trod laidOut (by kernel_rfl) (of_decide_eq_true (by kernel_rfl)) k1 bel lt1) (trodAll_cons_mk (shut_int Try.underlying3 wf2) trodAll_mk0))), rfl, bel.frame _, fun h => by cases h⟩

theorem over : Rows.treeLooksRow.holds Try.pinned (OpenSpec.ofChange Rows.treeLooksSpec) :=
  OpenClaim.holds_of_wide 5 Try.f5 rfl rfl rfl rfl rfl rfl rfl ⟨rfl, rfl, rfl, rfl, rfl⟩ rfl rfl rfl rfl rfl (by kernel_rfl) Try.func5 (by kernel_rfl)
    (of_decide_eq_true (by kernel_rfl)) (by unfold Func.isWrapper; first | (rw [if_pos (by decide +kernel)]; kernel_rfl) | (rw [if_neg (by decide +kernel)]; exact ⟨rfl, rfl⟩))
    (fun os started H enc _ => lifted os started H enc)

theorem proved : Rows.TreeLooksSaid := over
#print axioms proved
end Go.Proofs.Ytpnfjfbfgaiolaa.treeLooks
