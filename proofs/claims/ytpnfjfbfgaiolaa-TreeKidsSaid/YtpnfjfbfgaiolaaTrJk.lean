/- names: Join. No condition beyond the bounds that each states. -/
import Derived.Test.YtpnfjfbfgaiolaaSj
import Derived.Test.YtpnfjfbfgaiolaaKG
namespace Go.Proofs.Ytpnfjfbfgaiolaa
open Go Go.RowKit
set_option linter.unusedVariables false

/-! Join -/
theorem join_extra : Builder.Extra Try.prog Try.joinA_ren where
  sizeBuilder := by kernel_rfl
  liesBuilder := by kernel_rfl
  t5 := Try.underlying5
  a5 := Try.isAgg5
  z5 := Try.sizeOf5
  v5 := Try.zeroValue5
  infoByte := by kernel_rfl
  cellsByte := by kernel_rfl
  sizeByte := by kernel_rfl
  neB5 := by decide
theorem strJoin_ok (a : Option Addr) (c : Nat) (L : List (List UInt8)) (W : World) (hv : Vw strE W.heap a c L) (hl : L.length ≤ 1000) (hs : ∀ s ∈ L, s.length ≤ 255) :
    Calls Try.prog 55 [.slice a L.length c, .string (bs [47])].toArray W (Ret fun v w' => v = .string (bs (Lib.join L [47])) ∧ Foot nob W w') := by
  match L, hv, hl, hs with
  | [], hv, _, _ =>
    refine (Any.strings_Join_none Try.joinA join_extra a c (bs [47]) W).mono ?_
    rintro e w' ⟨rfl, rfl⟩
    exact ⟨_, rfl, rfl, Foot.refl _ _⟩
  | x :: L, hv, hl, hs =>
    cases a with
    | none => exact absurd rfl (hv.non (by simp))
    | some ad =>
      obtain ⟨bk, o, sp⟩ := ad
      have h0 := hv.get 0 x rfl
      have hsp : sp = none := by
        unfold cellH at h0
        split at h0
        · split at h0
          · cases h0
          · rename_i h; simpa [adr, Addr.add] using h
        · cases h0
      subst hsp
      have hlt : bk < W.heap.size := by
        unfold cellH at h0
        split at h0
        · rename_i h; exact (Array.getElem?_eq_some_iff.1 h).1
        · cases h0
      have hj : (Lib.join (((x :: L).map bs).map (·.data.toList)) (bs [47]).data.toList) = Lib.join (x :: L) [47] := by
        congr 1; rw [List.map_map]; conv => rhs; rw [← List.map_id (x :: L)]
        rfl
      have hc := Any.strings_Join Try.joinA join_extra bk o c ((x :: L).map bs) (bs [47]) W (fun j y hy => by
        rw [List.getElem?_map, Option.map_eq_some_iff] at hy
        obtain ⟨s, hs1, rfl⟩ := hy
        have hg := hv.get j s hs1; by_cases hj0 : j = 0 <;> simpa [adr, Addr.add, cell?_eq, strE, hj0] using hg) hlt (by rw [List.length_map]; omega) (by rw [List.length_map]; exact hv.le) (by
          rw [hj]; have := join_len hs; omega)
      rw [hj, List.length_map] at hc
      refine hc.mono ?_
      rintro e w' ⟨rfl, hb⟩
      exact ⟨_, rfl, rfl, hb.os, hb.tape, hb.output, hb.size, fun k hk _ => hb.block k hk⟩
theorem nJoin_ok (a : Option Addr) (c : Nat) (L : List (List UInt8)) (W : World) (hv : Vw strE W.heap a c L) (hl : L.length ≤ 1000) (hs : ∀ s ∈ L, s.length ≤ 255) :
    Calls Try.prog 28 [.slice a L.length c].toArray W (Ret fun v w' => v = .string (bs (pathL L)) ∧ Foot nob W w') := by
  have hjl := join_len hs
  refine calls_of_sc 6 [(0, _)] Try.func28 rfl rfl rfl (enter_slots ⟨rfl, trivial⟩) ?_
  refine Sc.seq ?_
  refine Sc.region ?_
  refine Sl.calm (Cm.assign rfl) rfl ?_
  refine Sl.nil ?_
  refine At.go ?_
  refine Sc.seq ?_
  refine Sc.region ?_
  refine Sl.calm (Cm.move rfl) rfl ?_
  refine Sl.call fn55 rfl (strJoin_ok a c L W hv hl hs) rfl ?_
  rintro _ w1 ⟨rfl, hf1⟩
  refine Sl.calm (Cm.catBs (a := [47]) rfl rfl (by simp; omega)) rfl ?_
  refine Sl.calm (Cm.assign rfl) rfl ?_
  refine Sl.nil ?_
  refine At.weak [(0, _), (2, _)] ⟨rfl, rfl, trivial⟩ ?_
  refine At.go ?_
  refine Sc.ret ?_
  refine At.ret1 rfl rfl ?_
  exact ⟨_, rfl, rfl, hf1⟩
end Go.Proofs.Ytpnfjfbfgaiolaa
