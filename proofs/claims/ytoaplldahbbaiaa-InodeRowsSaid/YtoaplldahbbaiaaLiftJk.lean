/- From the data that a law is handed to what its walk asks: a slice of records. No condition. -/
import Derived.Test.YtoaplldahbbaiaaLiftIk
import Derived.Test.YtoaplldahbbaiaaIrQk
namespace Go.Proofs.Ytoaplldahbbaiaa
open Go Go.RowKit Go.ChangeShapes Go.WideShapes Go.ChangeAt Go.Deep
set_option linter.unusedVariables false
section
variable {H : Type} {enc : TypeId × Value → H} {P : Program} {w : World} {t e : TypeId} {d : DataW H} {p : List MemPlace}
theorem open_inos {fs : Array Field} (ht : P.underlying t = some (.slice e)) (he : P.underlying e = some (.struct fs)) (hb : inoB P fs = true) (hc : P.cellsOf e = 11) {v : Value} (h : DataW.Trod enc P w 0 (fun _ => true) true t v d p) (hv : ∃ a n c, v = .slice a n c) :
    ∃ (a : Option Addr) (cap : Nat) (xs : List Ino), v = .slice a xs.length cap ∧ VwM 11 inoV w.heap a cap xs ∧ ∀ x ∈ xs, x.2.length ≤ maxLen := by
  obtain ⟨fuel, hf⟩ := h
  obtain ⟨a, n, c, rfl⟩ := hv
  rcases open_slice ht hf with ⟨hcs, _⟩ | ⟨x, l, c', m, n', D, Pl, hcs, _, hl, hm, hmm, _, hx⟩
  · refine ⟨none, 0, [], by simpa [Value.cells] using hcs, VwM.nil 0 (Nat.zero_le _), by simp⟩
  · simp only [if_true] at hmm
    have : Inhabited Ino := ⟨ino0⟩
    obtain ⟨Y, hY⟩ := choose_lt (α := Ino) (p := fun i y => (∀ j v, (inoV y)[j]? = some v → w.cell? ((x.add (i * 11)).add j) = some v) ∧ y.2.length ≤ maxLen) (n := m) (fun i hi => by
      obtain ⟨cs', h1, h2⟩ := hx i hi
      rw [hc] at h1
      obtain ⟨_, hlen, hcell⟩ := World.cells?_some h1
      obtain ⟨F, T, hy, hT⟩ := open_ino he hb hc h2
      refine ⟨(F, T), fun j v hj => ?_, hT⟩
      have hj : (inoC F T)[j]? = some v := hj
      rw [← hy] at hj
      have hjl := (List.getElem?_eq_some_iff.1 hj).1
      rw [hcell j (by omega)]
      rw [← hj])
    refine ⟨some x, c', (List.range l).map Y, by simpa [Value.cells] using hcs, ⟨by simp; omega, hm, fun _ => by simp, fun i u hu j v hj => ?_⟩, fun y hy => ?_⟩
    · rw [List.getElem?_map] at hu
      obtain ⟨k, hk, rfl⟩ := Option.map_eq_some_iff.1 hu
      have hki : k = i ∧ i < l := by
        have := List.getElem?_eq_some_iff.1 hk; obtain ⟨h1, h2⟩ := this; simp at h1 h2; omega
      obtain ⟨rfl, hil⟩ := hki
      have h1 := (hY k (by omega)).1 j v hj
      show w.cell? (x.add (k * 11 + j)) = some v
      rw [← adr_add]; exact h1
    · obtain ⟨k, hk, rfl⟩ := List.mem_map.1 hy
      exact (hY k (by have := List.mem_range.1 hk; omega)).2
end
end Go.Proofs.Ytoaplldahbbaiaa
