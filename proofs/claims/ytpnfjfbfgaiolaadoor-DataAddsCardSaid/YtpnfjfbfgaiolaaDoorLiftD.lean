/- From the data that a law is handed to what its walk asks: a slice of bools. No condition. -/
import Derived.Test.YtpnfjfbfgaiolaaDoorLiftA
namespace Go.Proofs.YtpnfjfbfgaiolaaDoor
open Go Go.RowKit Go.ChangeShapes Go.WideShapes Go.ChangeAt Go.ChangeMaps Go.Deep Go.WideElems
set_option linter.unusedVariables false
section
variable {H : Type} {enc : TypeId × Value → H} {P : Program} {w : World} {t e : TypeId} {d : DataW H} {p : List MemPlace}
theorem open_bools (ht : P.underlying t = some (.slice e)) (he : P.underlying e = some .bool) (hc : P.cellsOf e = 1) {v : Value} (h : DataW.Trod enc P w 0 (fun _ => true) true t v d p) (hv : ∃ a n c, v = .slice a n c) :
    ∃ (a : Option Addr) (cap : Nat) (xs : List Bool), v = .slice a xs.length cap ∧ Vw (fun b : Bool => Value.bool b) w.heap a cap xs := by
  obtain ⟨fuel, hf⟩ := h
  obtain ⟨a, n, c, rfl⟩ := hv
  rcases open_slice1 ht hc hf with ⟨hcs, _⟩ | ⟨x, l, c', m, n', V, D, Pl, hcs, _, hl, hm, hmm, _, hx⟩
  · refine ⟨none, 0, [], by simpa [Value.cells] using hcs, Vw.nil 0 (Nat.zero_le _)⟩
  · simp only [if_true] at hmm
    obtain ⟨Y, hY⟩ := choose_lt (α := Bool) (p := fun i y => V i = .bool y) (n := m) (fun i hi => by
      obtain ⟨b, hb, _⟩ := DataW.trod_bool he (hx i hi).2
      exact ⟨b, by simpa using hb⟩)
    refine ⟨some x, c', (List.range l).map Y, ?_, ⟨by simp; omega, hm, fun _ => by simp, fun i u hu => ?_⟩⟩
    · have : Value.slice a n c = .slice (some x) l c' := by simpa [Value.cells] using hcs
      rw [this]; simp
    · rw [List.getElem?_map] at hu
      by_cases hi : i < l
      · simp [hi] at hu
        subst hu
        have := (hx i (by omega)).1
        rw [hY i (by omega)] at this
        exact this
      · simp [hi] at hu
end
end Go.Proofs.YtpnfjfbfgaiolaaDoor
