/- From the data that a law is handed to what its walk asks: rows of trees, rows of names. No condition. -/
import Derived.Test.YtpamandneifemaaLiftNk
import Derived.Test.YtpamandneifemaaMgFk
namespace Go.Proofs.Ytpamandneifemaa
open Go Go.RowKit Go.ChangeShapes Go.WideShapes Go.ChangeAt Go.Deep
set_option linter.unusedVariables false
section
variable {H : Type} {enc : TypeId × Value → H} {P : Program} {w : World} {t e s : TypeId} {d : DataW H} {p : List MemPlace}
theorem open_nodesF {f0 f1 f2 f3 f4 f5 f6 f7 g0 g1 g2 x0 x1 : Field} {q0 q4 q6 q7 : TypeId} (ht : P.underlying t = some (.slice e)) (T : NodeT P e f0 f1 f2 f3 f4 f5 f6 f7 g0 g1 g2 x0 x1 q0 q4 q6 q7) {fuel : Nat} {v : Value} {x : DataW H × List MemPlace} (hf : DataW.trod enc P w 0 (fun _ => true) true fuel t [v] = some x) :
    ∃ (a : Option Addr) (cap : Nat) (ps : List (NdH × Nd)), v = .slice a ps.length cap ∧ NodesV (fun k => k < w.heap.size) w.heap a cap ps ∧ ∀ p ∈ ps, okN p.2 ∧ smN p.2 := by
  rcases open_slice ht hf with ⟨hcs, _⟩ | ⟨x, l, c', m, n', D, Pl, hcs, _, hl, hm, hmm, _, hx⟩
  · exact ⟨none, 0, [], by simpa using hcs, ⟨VwM.nil 0 (Nat.zero_le _), by simp⟩, by simp⟩
  · simp only [if_true] at hmm
    have : Inhabited (NdH × Nd) := ⟨(ndh0, nd0)⟩
    obtain ⟨Y, hY⟩ := choose_lt (α := NdH × Nd) (p := fun i y => (∀ j v, (encN y)[j]? = some v → w.cell? ((x.add (i * 10)).add j) = some v) ∧ NdV (fun k => k < w.heap.size) w.heap y ∧ okN y.2 ∧ smN y.2) (n := m) (fun i hi => by
      obtain ⟨cs', h1, h2⟩ := hx i hi
      rw [T.cells] at h1
      obtain ⟨_, hlen, hcell⟩ := World.cells?_some h1
      obtain ⟨y, hy, y1, y2, y3⟩ := open_node T h2
      refine ⟨y, fun j v hj => ?_, y1, y2, y3⟩
      rw [← hy] at hj
      have hjl := (List.getElem?_eq_some_iff.1 hj).1
      rw [hcell j (by omega)]
      rw [← hj])
    refine ⟨some x, c', (List.range l).map Y, by simpa using hcs, ⟨⟨by simp; omega, hm, fun _ => by simp, fun i u hu j v hj => ?_⟩, fun y hy => ?_⟩, fun y hy => ?_⟩
    · rw [List.getElem?_map] at hu
      obtain ⟨q, hq, rfl⟩ := Option.map_eq_some_iff.1 hu
      have hqi : q = i ∧ i < l := by
        have := List.getElem?_eq_some_iff.1 hq; obtain ⟨h1, h2⟩ := this; simp at h1 h2; omega
      obtain ⟨rfl, hil⟩ := hqi
      have h1 := (hY q (by omega)).1 j v hj
      show w.cell? (x.add (q * 10 + j)) = some v
      rw [← adr_add]; exact h1
    · obtain ⟨q, hq, rfl⟩ := List.mem_map.1 hy
      exact (hY q (by have := List.mem_range.1 hq; omega)).2.1
    · obtain ⟨q, hq, rfl⟩ := List.mem_map.1 hy
      exact (hY q (by have := List.mem_range.1 hq; omega)).2.2
theorem row_eta {α : Type} {l i : Nat} {f : Nat → α} {y : α} (h : ((List.range l).map f)[i]? = some y) : i < l ∧ y = f i := by
  rw [List.getElem?_map] at h
  obtain ⟨j, hj, rfl⟩ := Option.map_eq_some_iff.1 h
  have := List.getElem?_eq_some_iff.1 hj; obtain ⟨h1, h2⟩ := this; simp at h1 h2
  exact ⟨by omega, by rw [h2]⟩
theorem open_layers {f0 f1 f2 f3 f4 f5 f6 f7 g0 g1 g2 x0 x1 : Field} {q0 q4 q6 q7 : TypeId} (ht : P.underlying t = some (.slice e)) (he : P.underlying e = some (.slice s)) (hc : P.cellsOf e = 1) (T : NodeT P s f0 f1 f2 f3 f4 f5 f6 f7 g0 g1 g2 x0 x1 q0 q4 q6 q7) {v : Value} (h : DataW.Trod enc P w 0 (fun _ => true) true t v d p) (hv : ∃ a n c, v = .slice a n c) :
    ∃ (a : Option Addr) (cap : Nat) (hs : List Hd) (Ls : Lys), v = .slice a (List.length (α := List (NdH × Nd)) Ls) cap ∧ LysV (fun k => k < w.heap.size) w.heap a cap hs Ls ∧ ∀ ps ∈ Ls, ∀ p ∈ ps, okN p.2 ∧ smN p.2 := by
  obtain ⟨fuel, hf⟩ := h
  obtain ⟨a, n, c, rfl⟩ := hv
  rcases open_slice1 ht hc hf with ⟨hcs, _⟩ | ⟨x, l, c', m, n', V, D, Pl, hcs, _, hl, hm, hmm, _, hx⟩
  · exact ⟨none, 0, [], [], by simpa [Value.cells] using hcs, ⟨Vw.nil 0 (Nat.zero_le _), rfl, fun i h ps h1 => by simp at h1⟩, by simp⟩
  · simp only [if_true] at hmm
    have : Inhabited (Hd × List (NdH × Nd)) := ⟨(⟨none, 0, 0⟩, [])⟩
    obtain ⟨Y, hY⟩ := choose_lt (α := Hd × List (NdH × Nd)) (p := fun i y => V i = hd y.1 ∧ y.1.n = y.2.length ∧ NodesV (fun k => k < w.heap.size) w.heap y.1.a y.1.c y.2 ∧ ∀ p ∈ y.2, okN p.2 ∧ smN p.2) (n := m) (fun i hi => by
      obtain ⟨a, cap, xs, h1, h2, h3⟩ := open_nodesF he T (hx i hi).2
      exact ⟨(⟨a, xs.length, cap⟩, xs), h1, rfl, h2, h3⟩)
    refine ⟨some x, c', (List.range l).map (fun i => (Y i).1), (List.range l).map (fun i => (Y i).2), ?_, ⟨⟨by simp; omega, hm, fun _ => by simp, fun i u hu => ?_⟩, by simp, fun i y xs hy hxs => ?_⟩, fun ps hps => ?_⟩
    · have : Value.slice a n c = .slice (some x) l c' := by simpa [Value.cells] using hcs
      rw [this]; simp
    · obtain ⟨hil, rfl⟩ := row_eta hu
      have h1 := (hx i (by omega)).1
      rw [(hY i (by omega)).1] at h1
      exact h1
    · obtain ⟨hil, rfl⟩ := row_eta hy
      obtain ⟨_, rfl⟩ := row_eta hxs
      obtain ⟨_, h2, h3, _⟩ := hY i (by omega)
      exact ⟨h2, h3⟩
    · obtain ⟨i, hi, rfl⟩ := List.mem_map.1 hps
      exact (hY i (by have := List.mem_range.1 hi; omega)).2.2.2
def SrwV (D : Nat → Prop) (Hp : Array Obj) (hs : List Hd) (Rs : List (List (List UInt8))) : Prop := hs.length = Rs.length ∧ ∀ (i : Nat) (h : Hd) (r : List (List UInt8)), hs[i]? = some h → Rs[i]? = some r → NmV D Hp h r ∧ ∀ s ∈ r, s.length ≤ maxLen
theorem open_srows {q : TypeId} (ht : P.underlying t = some (.slice e)) (he : P.underlying e = some (.slice q)) (hc : P.cellsOf e = 1) (hq : P.underlying q = some .string) (hcq : P.cellsOf q = 1) {v : Value} (h : DataW.Trod enc P w 0 (fun _ => true) true t v d p) (hv : ∃ a n c, v = .slice a n c) :
    ∃ (a : Option Addr) (cap : Nat) (hs : List Hd) (Rs : List (List (List UInt8))), v = .slice a hs.length cap ∧ Vw hd w.heap a cap hs ∧ SrwV (fun k => k < w.heap.size) w.heap hs Rs := by
  obtain ⟨fuel, hf⟩ := h
  obtain ⟨a, n, c, rfl⟩ := hv
  rcases open_slice1 ht hc hf with ⟨hcs, _⟩ | ⟨x, l, c', m, n', V, D, Pl, hcs, _, hl, hm, hmm, _, hx⟩
  · exact ⟨none, 0, [], [], by simpa [Value.cells] using hcs, Vw.nil 0 (Nat.zero_le _), rfl, fun i h ps h1 => by simp at h1⟩
  · simp only [if_true] at hmm
    have : Inhabited (Hd × List (List UInt8)) := ⟨(⟨none, 0, 0⟩, [])⟩
    obtain ⟨Y, hY⟩ := choose_lt (α := Hd × List (List UInt8)) (p := fun i y => V i = hd y.1 ∧ NmV (fun k => k < w.heap.size) w.heap y.1 y.2 ∧ ∀ s ∈ y.2, s.length ≤ maxLen) (n := m) (fun i hi => by
      obtain ⟨z, xs, h1, h2, h3⟩ := open_strs he hq hcq (hx i hi).2
      exact ⟨(z, xs), h1, h2, h3⟩)
    refine ⟨some x, c', (List.range l).map (fun i => (Y i).1), (List.range l).map (fun i => (Y i).2), ?_, ⟨by simp; omega, hm, fun _ => by simp, fun i u hu => ?_⟩, by simp, fun i y xs hy hxs => ?_⟩
    · have : Value.slice a n c = .slice (some x) l c' := by simpa [Value.cells] using hcs
      rw [this]; simp
    · obtain ⟨hil, rfl⟩ := row_eta hu
      have h1 := (hx i (by omega)).1
      rw [(hY i (by omega)).1] at h1
      exact h1
    · obtain ⟨hil, rfl⟩ := row_eta hy
      obtain ⟨_, rfl⟩ := row_eta hxs
      exact (hY i (by omega)).2
end
end Go.Proofs.Ytpamandneifemaa
