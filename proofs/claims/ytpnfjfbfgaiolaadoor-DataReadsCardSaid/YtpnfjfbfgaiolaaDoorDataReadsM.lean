/- The law DataReads returns true for every input. -/
import Derived.Test.YtpnfjfbfgaiolaaDoorDaKk
import Derived.Test.YtpnfjfbfgaiolaaDoorCards
import Derived.Test.YtpnfjfbfgaiolaaDoorTie
import Derived.LaidMore
import Derived.LaidHandle
import Derived.SevenTiedAt
import Derived.Test.YtpnfjfbfgaiolaaDoorLiftEk
namespace Go.Proofs.YtpnfjfbfgaiolaaDoor.dataReads
open Go.ChangeShapes Go.WideShapes Go.ChangeAt Go.RowKit
open Go.ChangeMaps (open_string shut_string)
set_option linter.unusedVariables false

theorem own : ownKnob Tryd.prog.godebug = none := by kernel_rfl
/-- The door's own heap, with the table that is pinned by name laid in it, meets the condition. -/
def cellsOf : DataW Unit → Array Value
  | .agg xs => (xs.map fun | .lit (.int k n) => Value.int k n | _ => .bool false).toArray
  | _ => #[]
noncomputable def doorW (os : Os) : World :=
  { World.doorLaid Tryd.prog 400 os with heap := (World.doorLaid Tryd.prog 400 os).heap.modify ((Tryd.prog.globalNamed "unicode/utf8.first").getD 0) fun
      | .cells _ t frozen => .cells (cellsOf Go.Pinned.utf8First) t frozen
      | o => o }
theorem door_met (os : Os) (args : Array Value) : laidMetH Tryd.prog Rows.dataReadsRow.laid ((doorW os).forCall (fun _ _ => 0) ⟨#[], args, []⟩).memory :=
  laidMetH_of_parts3 (fuel := 8) (laidMet_of_run' 8 (by kernel_rfl) (by kernel_rfl)) (by kernel_rfl) (by kernel_rfl)
theorem laidOut : laidOutB Tryd.prog = true := by kernel_rfl

set_option maxRecDepth 100000 in
theorem lifted (os : Os) (started : os.Started) (H : Type) (enc : TypeId × Value → H) :
    ReturnsInHanded {} Tryd.checked os 6 .any (fun w args => (Rows.dataReadsSpec.pre enc Tryd.prog Tryd.f6 [] false w args ∧ laidMetH Tryd.prog Rows.dataReadsRow.laid w) ∧ sizedMet enc Tryd.prog Tryd.f6 (OpenSpec.ofChange Rows.dataReadsSpec) false w args) (Rows.dataReadsSpec.post enc Tryd.prog Tryd.f6 false true false false) := by
  refine returnsInHanded_of_change_and (C := Tryd.checked) (X := fun w _ => laidMetH Tryd.prog Rows.dataReadsRow.laid w) (fun _ _ _ hh h => h.of_heap hh) own started (by kernel_rfl) Tryd.func6
    (ChangeSpec.witness_shaped (enc := enc) (C := Tryd.checked) (os := os) (X := fun w _ => laidMetH Tryd.prog Rows.dataReadsRow.laid w) false (doorW os) #[.slice none 0 0, .slice none 0 0] 8 rfl (World.shaped_of_RefB (by kernel_rfl) (by kernel_rfl)) (by kernel_rfl) (by kernel_rfl) (by kernel_rfl) (door_met os _)) ?_
  intro W base args ds gs before hval0 hW _ _ hL _
  have hval : ∀ (j : Nat) t v, Tryd.f6.params[j]? = some t → args[j]? = some v → Value.okWide Tryd.prog W .any base t v := hval0
  have hW' := hW
  obtain ⟨p, q, hA0, hV, rfl, hfz, hnd⟩ := hW
  have hA : DataW.TrodAll enc Tryd.prog W 0 (fun _ => true) true Tryd.f6.params.toList args.toList ds p := hA0
  rw [Tryd.params6] at hA hval
  obtain ⟨v0, vs0, d0, ds0, p0, q0, hargs, rfl, rfl, h0, r0⟩ := trodAll_cons hA
  obtain ⟨v1, vs1, d1, ds1, p1, q1, rfl, rfl, rfl, h1, r1⟩ := trodAll_cons r0
  obtain ⟨rfl, rfl, rfl⟩ := trodAll_nil r1
  obtain rfl : args = #[v0, v1] := by cases args; simp_all
  obtain ⟨rfl, rfl⟩ := trodVars_none hV
  have k0 := h0
  have lt0 : ∀ x ∈ p0, x.block < W.heap.size := by obtain ⟨m, hm⟩ := k0; exact DataW.trod_lt m _ _ _ hm
  obtain ⟨a0, cap0, x0, rfl, hv0⟩ := open_bytes Tryd.underlying23 Tryd.underlying5 (by kernel_rfl) h0 (by obtain ⟨a, n, c, h⟩ := okWide_slice Tryd.underlying23 (hval 0 23 v0 rfl rfl); exact ⟨a, n, c, h⟩)
  have k1 := h1
  have lt1 : ∀ x ∈ p1, x.block < W.heap.size := by obtain ⟨m, hm⟩ := k1; exact DataW.trod_lt m _ _ _ hm
  obtain ⟨a1, cap1, x1, rfl, hv1, hw1⟩ := open_asksN (k := 5) Tryd.underlying49 Tryd.underlying51 (by kernel_rfl) (by kernel_rfl) h1 (by obtain ⟨a, n, c, h⟩ := okWide_slice Tryd.underlying49 (hval 1 49 v1 rfl rfl); exact ⟨a, n, c, h⟩)
  clear hA0 hval0
  refine (dataReads_ok a0 cap0 x0 a1 cap1 x1 W hv0 hv1 (fun x hx i => wf_i64 (hw1 x hx i))).mono fun e W' hR => ?_
  obtain ⟨he, bel⟩ := ret_true hR
  subst he
  exact ⟨_, rfl, _, _, _, [], _, [], hW', trodAll_mk1 (shut_bool Tryd.underlying4 _), (trodAll_cons_mk (Below.trod laidOut (by kernel_rfl) (of_decide_eq_true (by kernel_rfl)) k0 bel lt0) (trodAll_cons_mk (Below.trod laidOut (by kernel_rfl) (of_decide_eq_true (by kernel_rfl)) k1 bel lt1) trodAll_mk0)), rfl, bel.frame _, fun h => by cases h⟩

theorem over : Rows.dataReadsRow.holds Tryd.pinned (OpenSpec.ofChange Rows.dataReadsSpec) :=
  OpenClaim.holds_of_wide 6 Tryd.f6 rfl rfl rfl rfl rfl rfl rfl ⟨rfl, rfl, rfl, rfl, rfl⟩ rfl rfl rfl rfl rfl (by kernel_rfl) Tryd.func6 (by kernel_rfl)
    (of_decide_eq_true (by kernel_rfl)) (by unfold Func.isWrapper; first | (rw [if_pos (by decide +kernel)]; kernel_rfl) | (rw [if_neg (by decide +kernel)]; exact ⟨rfl, rfl⟩))
    (fun os started H enc _ => lifted os started H enc)

/-- the tied card -/
theorem proved : Rows.DataReadsCardSaid :=
  Claim7.holds_tied_plain_at .later [] [.data, .pinned] true (true, "c7b781896a8ce9e51ae0d54f5ae8b1a1d5d88ac727264991c720e7de6a3f340e") false
    over (fun _ h => by cases h) (by kernel_rfl) (fun _ h => by cases h) dataReads_row_tie rfl ⟨rfl, rfl⟩ (by kernel_rfl) rfl
    (fun f fn hf hfn => by
      obtain rfl : f = 6 := Option.some.inj ((show Tryd.prog.funcNamed "lamella/lamellalaw12.DataReads" = some 6 by kernel_rfl).symm.trans hf) |>.symm
      obtain rfl : fn = Tryd.f6 := (Option.some.inj (Tryd.func6.symm.trans hfn)).symm
      exact ⟨by kernel_rfl, fun j t ht => by
        rw [Tryd.params6] at ht
        have hm : t ∈ [23, 49] := by simpa using Array.mem_of_getElem? ht
        have hall : ([23, 49].all fun u => !Tryd.prog.wantsStandIn u) = true := by kernel_rfl
        exact (show Tryd.prog.wantsStandIn t = false by simpa using List.all_eq_true.1 hall t hm)⟩)
    (by kernel_rfl)
#print axioms proved
end Go.Proofs.YtpnfjfbfgaiolaaDoor.dataReads
