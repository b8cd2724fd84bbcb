/- The law TreeAlike returns true for every input. -/
import Derived.Test.YtpnfjfbfgaiolaaTrN
import Derived.Test.YtpnfjfbfgaiolaaLiftN
namespace Go.Proofs.Ytpnfjfbfgaiolaa.treeAlike
open Go.ChangeShapes Go.WideShapes Go.ChangeAt Go.RowKit
open Go.ChangeMaps (open_string shut_string)
set_option linter.unusedVariables false

theorem own : ownKnob Try.prog.godebug = none := by kernel_rfl
theorem laidOut : laidOutB Try.prog = true := by kernel_rfl

set_option maxRecDepth 100000 in
theorem lifted (os : Os) (started : os.Started) (H : Type) (enc : TypeId × Value → H) :
    ReturnsInHanded {} Try.checked os 4 .any (Rows.treeAlikeSpec.pre6 enc Try.prog Try.f4 Rows.treeAlikeRow.domain false) (Rows.treeAlikeSpec.post enc Try.prog Try.f4 false true false false) := by
  refine returnsInHanded_of_change (C := Try.checked) own started (by kernel_rfl) Try.func4
    (ChangeSpec.witness6 (enc := enc) (C := Try.checked) false ⟨#[], #[.agg #[.slice none 0 0, .int .i64 0, .int .i64 0, .int .i64 0, .int .i64 0, .int .i64 0, .slice none 0 0, .string ByteArray.empty, .slice none 0 0, .bool false], .agg #[.slice none 0 0, .int .i64 0, .int .i64 0, .int .i64 0, .int .i64 0, .int .i64 0, .slice none 0 0, .string ByteArray.empty, .slice none 0 0, .bool false], .slice none 0 0], []⟩ 8 (by kernel_rfl) (by kernel_rfl) (by kernel_rfl) (by kernel_rfl)) ?_
  intro W base args ds gs before hval0 hW hcnd _
  have hval : ∀ (j : Nat) t v, Try.f4.params[j]? = some t → args[j]? = some v → Value.okWide Try.prog W .any base t v := hval0
  have hW' := hW
  obtain ⟨p, q, hA0, hV, rfl, hfz, hnd⟩ := hW
  have hA : DataW.TrodAll enc Try.prog W 0 (fun _ => true) true Try.f4.params.toList args.toList ds p := hA0
  rw [Try.params4] at hA hval
  obtain ⟨v0, vs0, d0, ds0, p0, q0, hargs, rfl, rfl, h0, r0⟩ := trodAll_cons hA
  obtain ⟨v1, vs1, d1, ds1, p1, q1, rfl, rfl, rfl, h1, r1⟩ := trodAll_cons r0
  obtain ⟨v2, vs2, d2, ds2, p2, q2, rfl, rfl, rfl, h2, r2⟩ := trodAll_cons r1
  obtain ⟨rfl, rfl, rfl⟩ := trodAll_nil r2
  obtain rfl : args = #[v0, v1, v2] := by cases args; simp_all
  obtain ⟨rfl, rfl⟩ := trodVars_none hV
  have k0 := h0
  have lt0 : ∀ x ∈ p0, x.block < W.heap.size := by obtain ⟨m, hm⟩ := k0; exact DataW.trod_lt m _ _ _ hm
  obtain ⟨x0, rfl, hv0, hw0⟩ : ∃ p : NdH × Nd, v0 = .agg (encN p).toArray ∧ NdV (fun k => k < W.heap.size) W.heap p ∧ okN p.2 ∧ smN p.2 := by
    obtain ⟨fu, hfu⟩ := h0
    obtain ⟨cs, rfl, _⟩ := okWide_struct Try.underlying34 (hval 0 34 v0 rfl rfl)
    obtain ⟨p, e, h1, h2⟩ := open_node (⟨Try.underlying34, by kernel_rfl, rfl, by kernel_rfl, Try.underlying28, Try.underlying9, by kernel_rfl, Try.underlying3, Try.underlying3, Try.underlying30, rfl, by kernel_rfl, Try.underlying3, Try.underlying3, Try.underlying3, Try.underlying31, Try.underlying5, by kernel_rfl, Try.underlying9, Try.underlying32, Try.underlying54, by kernel_rfl, ⟨rfl, rfl⟩, ⟨by kernel_rfl, by kernel_rfl⟩, Try.underlying9, Try.underlying31, Try.underlying5, by kernel_rfl, Try.underlying4⟩) hfu
    exact ⟨p, by rw [← e]; rfl, h1, h2⟩
  have k1 := h1
  have lt1 : ∀ x ∈ p1, x.block < W.heap.size := by obtain ⟨m, hm⟩ := k1; exact DataW.trod_lt m _ _ _ hm
  obtain ⟨x1, rfl, hv1, hw1⟩ : ∃ p : NdH × Nd, v1 = .agg (encN p).toArray ∧ NdV (fun k => k < W.heap.size) W.heap p ∧ okN p.2 ∧ smN p.2 := by
    obtain ⟨fu, hfu⟩ := h1
    obtain ⟨cs, rfl, _⟩ := okWide_struct Try.underlying34 (hval 1 34 v1 rfl rfl)
    obtain ⟨p, e, h1, h2⟩ := open_node (⟨Try.underlying34, by kernel_rfl, rfl, by kernel_rfl, Try.underlying28, Try.underlying9, by kernel_rfl, Try.underlying3, Try.underlying3, Try.underlying30, rfl, by kernel_rfl, Try.underlying3, Try.underlying3, Try.underlying3, Try.underlying31, Try.underlying5, by kernel_rfl, Try.underlying9, Try.underlying32, Try.underlying54, by kernel_rfl, ⟨rfl, rfl⟩, ⟨by kernel_rfl, by kernel_rfl⟩, Try.underlying9, Try.underlying31, Try.underlying5, by kernel_rfl, Try.underlying4⟩) hfu
    exact ⟨p, by rw [← e]; rfl, h1, h2⟩
  have k2 := h2
  have lt2 : ∀ x ∈ p2, x.block < W.heap.size := by obtain ⟨m, hm⟩ := k2; exact DataW.trod_lt m _ _ _ hm
  obtain ⟨z2, x2, rfl, hv2, hw2⟩ : ∃ (z : Hd) (l : List (List UInt8)), v2 = hd z ∧ NmV (fun k => k < W.heap.size) W.heap z l ∧ ∀ s ∈ l, s.length ≤ maxLen := by
    obtain ⟨fu, hfu⟩ := h2
    obtain ⟨a, n, c, h⟩ := okWide_slice Try.underlying28 (hval 2 28 v2 rfl rfl)
    subst h
    exact open_strs Try.underlying28 Try.underlying9 (by kernel_rfl) hfu
  clear hA0 hval0
  refine (treeAlike_ok x0 x1 x2 z2 W hv0 hv1 hv2).mono fun e W' hR => ?_
  obtain ⟨he, bel⟩ := ret_true hR
  subst he
  exact ⟨_, rfl, _, _, _, [], _, [], hW', trodAll_mk1 (shut_bool Try.underlying4 _), (trodAll_cons_mk (Below.trod laidOut (by kernel_rfl) (of_decide_eq_true (by kernel_rfl)) k0 bel lt0) (trodAll_cons_mk (Below.trod laidOut (by kernel_rfl) (of_decide_eq_true (by kernel_rfl)) k1 bel lt1) (trodAll_cons_mk (Below.trod laidOut (by kernel_rfl) (of_decide_eq_true (by kernel_rfl)) k2 bel lt2) trodAll_mk0))), rfl, bel.frame _, fun h => by cases h⟩

theorem over : Rows.treeAlikeRow.holds Try.pinned (OpenSpec.ofChange Rows.treeAlikeSpec) :=
  OpenClaim.holds_of_wide 4 Try.f4 rfl rfl rfl rfl rfl rfl rfl ⟨rfl, rfl, rfl, rfl, rfl⟩ rfl rfl rfl rfl rfl (by kernel_rfl) Try.func4 (by kernel_rfl)
    (of_decide_eq_true (by kernel_rfl)) (by unfold Func.isWrapper; first | (rw [if_pos (by decide +kernel)]; kernel_rfl) | (rw [if_neg (by decide +kernel)]; exact ⟨rfl, rfl⟩))
    (fun os started H enc _ => lifted os started H enc)

theorem proved : Rows.TreeAlikeSaid := over
#print axioms proved
end Go.Proofs.Ytpnfjfbfgaiolaa.treeAlike
