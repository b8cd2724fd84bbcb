/- From the data that a law is handed to what its walk asks: a slice of slices of attributes. No condition. -/
import Derived.Test.YtoaplldahbbaiaaLiftXk
import Derived.Test.YtoaplldahbbaiaaTyBk
namespace Go.Proofs.Ytoaplldahbbaiaa
open Go Go.RowKit Go.ChangeShapes Go.WideShapes Go.ChangeAt Go.Deep
set_option linter.unusedVariables false
section
variable {H : Type} {enc : TypeId × Value → H} {P : Program} {w : World} {t e s : TypeId} {d : DataW H} {p : List MemPlace}
theorem open_xrows {q : TypeId} {f0 f1 : Field} (ht : P.underlying t = some (.slice e)) (he0 : P.underlying e = some (.slice s)) (hc : P.cellsOf e = 1) (he : P.underlying s = some (.struct #[f0, f1])) (ce : P.cellsOf s = 2) (o0 : f0.offset = 0) (o1 : f1.offset = 1) (c0 : P.cellsOf f0.type = 1) (c1 : P.cellsOf f1.type = 1)
    (hs : P.underlying f0.type = some .string) (hq : P.underlying f1.type = some (.slice q)) (hb : P.underlying q = some (.int .u8)) (hcq : P.cellsOf q = 1) {v : Value} (h : DataW.Trod enc P w 0 (fun _ => true) true t v d p) (hv : ∃ a n c, v = .slice a n c) :
    ∃ (a : Option Addr) (cap : Nat) (hs : List Hd) (XS : List (List Xa)), v = .slice a hs.length cap ∧ Vw hd w.heap a cap hs ∧ XrV w.heap hs XS := by
  obtain ⟨fuel, hf⟩ := h
  obtain ⟨a, n, c, rfl⟩ := hv
  rcases open_slice1 ht hc hf with ⟨hcs, _⟩ | ⟨x, l, c', m, n', V, D, Pl, hcs, _, hl, hm, hmm, _, hx⟩
  · refine ⟨none, 0, [], [], by simpa [Value.cells] using hcs, Vw.nil 0 (Nat.zero_le _), XrV.nil⟩
  · simp only [if_true] at hmm
    have : Inhabited (Hd × List Xa) := ⟨(⟨none, 0, 0⟩, [])⟩
    obtain ⟨Y, hY⟩ := choose_lt (α := Hd × List Xa) (p := fun i y => V i = hd y.1 ∧ y.1.n = y.2.length ∧ XaV w.heap y.1.a y.1.c y.2) (n := m) (fun i hi => by
      obtain ⟨a, cap, xs, h1, h2⟩ := open_xattrs he0 he ce o0 o1 c0 c1 hs hq hb hcq (hx i hi).2
      exact ⟨(⟨a, xs.length, cap⟩, xs), h1, rfl, h2⟩)
    refine ⟨some x, c', (List.range l).map (fun i => (Y i).1), (List.range l).map (fun i => (Y i).2), ?_, ⟨by simp; omega, hm, fun _ => by simp, fun i u hu => ?_⟩, by simp, fun i y xs hy hxs => ?_⟩
    · have : Value.slice a n c = .slice (some x) l c' := by simpa [Value.cells] using hcs
      rw [this]; simp
    · rw [List.getElem?_map] at hu
      obtain ⟨j, hj, rfl⟩ := Option.map_eq_some_iff.1 hu
      have hji : j = i ∧ i < l := by
        have := List.getElem?_eq_some_iff.1 hj; obtain ⟨h1, h2⟩ := this; simp at h1 h2; omega
      obtain ⟨rfl, hil⟩ := hji
      have h1 := (hx j (by omega)).1
      rw [(hY j (by omega)).1] at h1
      exact h1
    · rw [List.getElem?_map] at hy hxs
      obtain ⟨j, hj, rfl⟩ := Option.map_eq_some_iff.1 hy
      rw [hj] at hxs
      simp at hxs
      subst hxs
      have hjl : j < l := by have := List.mem_of_getElem? hj; simpa using this
      obtain ⟨_, h2, h3⟩ := hY j (by omega)
      exact ⟨h2, h3⟩
end
end Go.Proofs.Ytoaplldahbbaiaa
