/- From the data that a law is handed to what its walk asks: nodes. No condition. -/
import Derived.Test.YtpamandneifemaaNdk
import Derived.Test.YtpamandneifemaaLiftXk
import Derived.Deep.Fields
namespace Go.Proofs.Ytpamandneifemaa
open Go Go.RowKit Go.ChangeShapes Go.WideShapes Go.ChangeAt Go.Deep
set_option linter.unusedVariables false

section
variable {H : Type} {enc : TypeId × Value → H} {P : Program} {w : World} {t e : TypeId} {d : DataW H} {p : List MemPlace}
theorem Vw.blocks {α : Type} {en : α → Value} {Hp : Array Obj} {a : Option Addr} {c : Nat} {xs : List α} (h : Vw en Hp a c xs) (hne : xs ≠ []) : ∀ k, blk a k → k < Hp.size := fun k ⟨b, hb, e⟩ => by have := h.lt hne b hb; omega
theorem open_strs {q : TypeId} (ht : P.underlying t = some (.slice q)) (hq : P.underlying q = some .string) (hc : P.cellsOf q = 1) {fuel : Nat} {v : Value} {x : DataW H × List MemPlace} (h : DataW.trod enc P w 0 (fun _ => true) true fuel t [v] = some x) :
    ∃ (z : Hd) (l : List (List UInt8)), v = hd z ∧ NmV (fun k => k < w.heap.size) w.heap z l ∧ ∀ s ∈ l, s.length ≤ maxLen := by
  rcases open_slice1 ht hc h with ⟨hcs, _⟩ | ⟨x, l, c', m, n', V, Dd, Pl, hcs, _, hl, hm, hmm, _, hx⟩
  · exact ⟨hd0, [], show v = .slice none 0 0 by simpa using hcs, ⟨rfl, Vw.nil 0 (Nat.zero_le _), fun h => absurd rfl h⟩, by simp⟩
  · simp only [if_true] at hmm
    obtain ⟨Y, hY⟩ := choose_lt (α := List UInt8) (p := fun i y => V i = strE y ∧ y.length ≤ maxLen) (n := m) (fun i hi => by
      obtain ⟨s, hs, _, hsz⟩ := DataW.trod_string hq (hx i hi).2
      have hs : V i = .string s := by simpa using hs
      exact ⟨s.data.toList, hs, hsz⟩)
    have hv : Vw strE w.heap (some x) c' ((List.range l).map Y) := ⟨by simp; omega, hm, fun _ => by simp, fun i u hu => by
      rw [List.getElem?_map] at hu
      by_cases hi : i < l
      · simp [hi] at hu
        subst hu
        have := (hx i (by omega)).1
        rw [(hY i (by omega)).1] at this
        exact this
      · simp [hi] at hu⟩
    refine ⟨⟨some x, l, c'⟩, (List.range l).map Y, show v = .slice (some x) l c' by simpa using hcs, ⟨by simp, hv, fun hne k hk => hv.blocks hne k hk⟩, fun s hs => ?_⟩
    obtain ⟨i, hi, rfl⟩ := List.mem_map.1 hs
    exact (hY i (by have := List.mem_range.1 hi; omega)).2
theorem open_byv {q : TypeId} (ht : P.underlying t = some (.slice q)) (hq : P.underlying q = some (.int .u8)) (hc : P.cellsOf q = 1) {fuel : Nat} {v : Value} {x : DataW H × List MemPlace} (h : DataW.trod enc P w 0 (fun _ => true) true fuel t [v] = some x) :
    ∃ (z : Hd) (l : List UInt8), v = hd z ∧ ByV (fun k => k < w.heap.size) w.heap z l := by
  obtain ⟨a, c, xs, h1, h2⟩ := open_bytes_fuel ht hq hc h
  exact ⟨⟨a, xs.length, c⟩, xs, h1, rfl, h2, fun hne k hk => h2.blocks hne k hk⟩
theorem open_xsv {q : TypeId} {f0 f1 : Field} (ht : P.underlying t = some (.slice e)) (he : P.underlying e = some (.struct #[f0, f1])) (ce : P.cellsOf e = 2) (o0 : f0.offset = 0) (o1 : f1.offset = 1) (c0 : P.cellsOf f0.type = 1) (c1 : P.cellsOf f1.type = 1)
    (hs : P.underlying f0.type = some .string) (hq : P.underlying f1.type = some (.slice q)) (hb : P.underlying q = some (.int .u8)) (hcq : P.cellsOf q = 1) {fuel : Nat} {v : Value} {x : DataW H × List MemPlace} (h : DataW.trod enc P w 0 (fun _ => true) true fuel t [v] = some x) :
    ∃ (z : Hd) (X : List Xa), v = hd z ∧ XsV (fun k => k < w.heap.size) w.heap z X ∧ ∀ x ∈ X, x.1.length ≤ maxLen := by
  obtain ⟨a, c, X, h1, xs, h2, h3, h4⟩ := open_xattrs ht he ce o0 o1 c0 c1 hs hq hb hcq h
  refine ⟨⟨a, X.length, c⟩, X, h1, ⟨rfl, xs, h2, h3, fun hne k ⟨b, hb, e⟩ => ?_, fun i x y hx hy => ?_⟩, fun x hx => ?_⟩
  · have := h2.lt hne (fun x => by simp [encX]) b hb; omega
  · obtain ⟨g1, g2, g3, _⟩ := h4 i x y hx hy
    exact ⟨g1, g2, g3, fun hne k hk => g3.blocks hne k hk⟩
  · obtain ⟨i, hi⟩ := List.getElem?_of_mem hx
    have hil := (List.getElem?_eq_some_iff.1 hi).1
    exact (h4 i _ x (List.getElem?_eq_getElem (by omega)) hi).2.2.2
theorem bd_wf {z : Int} (h : (Lit.int .i64 z).wf = true) : -9223372036854775808 ≤ z ∧ z ≤ 9223372036854775807 := by simpa [Lit.wf, IntKind.min, IntKind.max, IntKind.signed, IntKind.bits] using h
/-- how a node's type is laid out -/
structure NodeT (P : Program) (e : TypeId) (f0 f1 f2 f3 f4 f5 f6 f7 g0 g1 g2 x0 x1 : Field) (q0 q4 q6 q7 : TypeId) : Prop where
  und : P.underlying e = some (.struct #[f0, f1, f2, f3, f4, f5, f6, f7])
  cells : P.cellsOf e = 10
  offs : [f0, f1, f2, f3, f4, f5, f6, f7].map (·.offset) = [0, 1, 2, 3, 6, 7, 8, 9]
  cell : [f0, f1, f2, f3, f4, f5, f6, f7].map (fun f => P.cellsOf f.type) = [1, 1, 1, 3, 1, 1, 1, 1]
  u0 : P.underlying f0.type = some (.slice q0)
  uq0 : P.underlying q0 = some .string
  cq0 : P.cellsOf q0 = 1
  u1 : P.underlying f1.type = some (.int .i64)
  u2 : P.underlying f2.type = some (.int .i64)
  u3 : P.underlying f3.type = some (.struct #[g0, g1, g2])
  goffs : [g0, g1, g2].map (·.offset) = [0, 1, 2]
  gcell : [g0, g1, g2].map (fun f => P.cellsOf f.type) = [1, 1, 1]
  v0 : P.underlying g0.type = some (.int .i64)
  v1 : P.underlying g1.type = some (.int .i64)
  v2 : P.underlying g2.type = some (.int .i64)
  u4 : P.underlying f4.type = some (.slice q4)
  uq4 : P.underlying q4 = some (.int .u8)
  cq4 : P.cellsOf q4 = 1
  u5 : P.underlying f5.type = some .string
  u6 : P.underlying f6.type = some (.slice q6)
  uq6 : P.underlying q6 = some (.struct #[x0, x1])
  cq6 : P.cellsOf q6 = 2
  xoffs : x0.offset = 0 ∧ x1.offset = 1
  xcell : P.cellsOf x0.type = 1 ∧ P.cellsOf x1.type = 1
  w0 : P.underlying x0.type = some .string
  w1 : P.underlying x1.type = some (.slice q7)
  uq7 : P.underlying q7 = some (.int .u8)
  cq7 : P.cellsOf q7 = 1
  u7 : P.underlying f7.type = some .bool
theorem take1_at {cs : List Value} {i : Nat} (h : i < cs.length) : (cs.drop i).take 1 = [cs.getD i undef] := by
  have h2 : (cs.drop i).take 1 = [cs[i]] := by rw [List.drop_eq_getElem_cons h]; rfl
  rw [h2]; simp [List.getD, h]
theorem open_node {f0 f1 f2 f3 f4 f5 f6 f7 g0 g1 g2 x0 x1 : Field} {q0 q4 q6 q7 : TypeId} (T : NodeT P e f0 f1 f2 f3 f4 f5 f6 f7 g0 g1 g2 x0 x1 q0 q4 q6 q7) {fuel : Nat} {cs : List Value} {x : DataW H × List MemPlace}
    (h : DataW.trod enc P w 0 (fun _ => true) true fuel e cs = some x) : ∃ p : NdH × Nd, cs = encN p ∧ NdV (fun k => k < w.heap.size) w.heap p ∧ okN p.2 ∧ smN p.2 := by
  obtain ⟨xs, n, _, _, hl, hxl, hf⟩ := DataW.trod_struct T.und h
  rw [T.cells] at hl
  have ho := T.offs
  have hc := T.cell
  simp only [List.map_cons, List.map_nil, List.cons.injEq, and_true] at ho hc
  obtain ⟨o0, o1, o2, o3, o4, o5, o6, o7⟩ := ho
  obtain ⟨c0, c1, c2, c3, c4, c5, c6, c7⟩ := hc
  have k0 := hf 0 f0 rfl
  rw [List.getElem?_eq_getElem (show 0 < xs.length by rw [hxl]; show _ < 8; decide)] at k0
  have k1 := hf 1 f1 rfl
  rw [List.getElem?_eq_getElem (show 1 < xs.length by rw [hxl]; show _ < 8; decide)] at k1
  have k2 := hf 2 f2 rfl
  rw [List.getElem?_eq_getElem (show 2 < xs.length by rw [hxl]; show _ < 8; decide)] at k2
  have k3 := hf 3 f3 rfl
  rw [List.getElem?_eq_getElem (show 3 < xs.length by rw [hxl]; show _ < 8; decide)] at k3
  have k4 := hf 4 f4 rfl
  rw [List.getElem?_eq_getElem (show 4 < xs.length by rw [hxl]; show _ < 8; decide)] at k4
  have k5 := hf 5 f5 rfl
  rw [List.getElem?_eq_getElem (show 5 < xs.length by rw [hxl]; show _ < 8; decide)] at k5
  have k6 := hf 6 f6 rfl
  rw [List.getElem?_eq_getElem (show 6 < xs.length by rw [hxl]; show _ < 8; decide)] at k6
  have k7 := hf 7 f7 rfl
  rw [List.getElem?_eq_getElem (show 7 < xs.length by rw [hxl]; show _ < 8; decide)] at k7
  rw [o0, c0, take1_at (by omega)] at k0
  rw [o1, c1, take1_at (by omega)] at k1
  rw [o2, c2, take1_at (by omega)] at k2
  rw [o3, c3] at k3
  rw [o4, c4, take1_at (by omega)] at k4
  rw [o5, c5, take1_at (by omega)] at k5
  rw [o6, c6, take1_at (by omega)] at k6
  rw [o7, c7, take1_at (by omega)] at k7
  obtain ⟨z0, l0, e0, n0, s0⟩ := open_strs T.u0 T.uq0 T.cq0 k0
  obtain ⟨m1, e1, _, w1⟩ := DataW.trod_int T.u1 k1
  obtain ⟨m2, e2, _, w2⟩ := DataW.trod_int T.u2 k2
  obtain ⟨ys, n', _, _, gl, gxl, gf⟩ := DataW.trod_struct T.u3 k3
  have go := T.goffs
  have gc := T.gcell
  simp only [List.map_cons, List.map_nil, List.cons.injEq, and_true] at go gc
  have j0 := gf 0 g0 rfl
  rw [List.getElem?_eq_getElem (show 0 < ys.length by rw [gxl]; show _ < 3; decide)] at j0
  have j1 := gf 1 g1 rfl
  rw [List.getElem?_eq_getElem (show 1 < ys.length by rw [gxl]; show _ < 3; decide)] at j1
  have j2 := gf 2 g2 rfl
  rw [List.getElem?_eq_getElem (show 2 < ys.length by rw [gxl]; show _ < 3; decide)] at j2
  have hl3 : ((cs.drop 3).take 3).length = 3 := by rw [List.length_take, List.length_drop]; omega
  rw [go.1, gc.1, take1_at (by omega)] at j0
  rw [go.2.1, gc.2.1, take1_at (by omega)] at j1
  rw [go.2.2, gc.2.2, take1_at (by omega)] at j2
  obtain ⟨a0, d0, _, b0⟩ := DataW.trod_int T.v0 j0
  obtain ⟨a1, d1, _, b1⟩ := DataW.trod_int T.v1 j1
  obtain ⟨a2, d2, _, b2⟩ := DataW.trod_int T.v2 j2
  obtain ⟨z4, l4, e4, n4⟩ := open_byv T.u4 T.uq4 T.cq4 k4
  obtain ⟨s5, e5, _, w5⟩ := DataW.trod_string T.u5 k5
  obtain ⟨z6, l6, e6, n6, s6⟩ := open_xsv T.u6 T.uq6 T.cq6 T.xoffs.1 T.xoffs.2 T.xcell.1 T.xcell.2 T.w0 T.w1 T.uq7 T.cq7 k6
  obtain ⟨b7, e7, _⟩ := DataW.trod_bool T.u7 k7
  have e1 : cs.getD 1 undef = .int .i64 m1 := by simpa using e1
  have e2 : cs.getD 2 undef = .int .i64 m2 := by simpa using e2
  have g3 : ∀ i, i < 3 → ((cs.drop 3).take 3).getD i undef = cs.getD (3 + i) undef := fun i hi => by simp [List.getD, hi, List.getElem?_drop]
  have d0 : cs.getD 3 undef = .int .i64 a0 := by rw [← g3 0 (by decide)]; simpa using d0
  have d1 : cs.getD 4 undef = .int .i64 a1 := by rw [← g3 1 (by decide)]; simpa using d1
  have d2 : cs.getD 5 undef = .int .i64 a2 := by rw [← g3 2 (by decide)]; simpa using d2
  have e5 : cs.getD 7 undef = .string s5 := by simpa using e5
  have e7 : cs.getD 9 undef = .bool b7 := by simpa using e7
  refine ⟨(⟨z0, z4, z6⟩, ⟨l0, m1, m2, a0, a1, a2, l4, s5.data.toList, l6, b7⟩), ?_, ⟨n0, n4, n6⟩, ?_, ⟨w5, s0, s6⟩⟩
  · have key : ∀ i v, i < 10 → cs.getD i undef = v → cs[i]? = some v := fun i v hi hv => by
      rw [List.getElem?_eq_getElem (by omega)]; rw [← hv]; simp [List.getD, show i < cs.length by omega]
    apply List.ext_getElem?
    intro i
    match i with
    | 0 => exact key 0 _ (by decide) e0
    | 1 => exact key 1 _ (by decide) e1
    | 2 => exact key 2 _ (by decide) e2
    | 3 => exact key 3 _ (by decide) d0
    | 4 => exact key 4 _ (by decide) d1
    | 5 => exact key 5 _ (by decide) d2
    | 6 => exact key 6 _ (by decide) e4
    | 7 => exact key 7 _ (by decide) e5
    | 8 => exact key 8 _ (by decide) e6
    | 9 => exact key 9 _ (by decide) e7
    | i + 10 => rw [List.getElem?_eq_none (by omega), List.getElem?_eq_none (by simp [encN])]
  · intro z hz
    simp only [List.mem_cons, List.not_mem_nil, or_false] at hz
    rcases hz with rfl | rfl | rfl | rfl | rfl
    · exact bd_wf w1
    · exact bd_wf w2
    · exact bd_wf b0
    · exact bd_wf b1
    · exact bd_wf b2
theorem open_nodes {f0 f1 f2 f3 f4 f5 f6 f7 g0 g1 g2 x0 x1 : Field} {q0 q4 q6 q7 : TypeId} (ht : P.underlying t = some (.slice e)) (T : NodeT P e f0 f1 f2 f3 f4 f5 f6 f7 g0 g1 g2 x0 x1 q0 q4 q6 q7) {v : Value} (h : DataW.Trod enc P w 0 (fun _ => true) true t v d p) (hv : ∃ a n c, v = .slice a n c) :
    ∃ (a : Option Addr) (cap : Nat) (ps : List (NdH × Nd)), v = .slice a ps.length cap ∧ NodesV (fun k => k < w.heap.size) w.heap a cap ps ∧ ∀ p ∈ ps, okN p.2 ∧ smN p.2 := by
  obtain ⟨fuel, hf⟩ := h
  obtain ⟨a, n, c, rfl⟩ := hv
  rcases open_slice ht hf with ⟨hcs, _⟩ | ⟨x, l, c', m, n', D, Pl, hcs, _, hl, hm, hmm, _, hx⟩
  · exact ⟨none, 0, [], by simpa [Value.cells] using hcs, ⟨VwM.nil 0 (Nat.zero_le _), by simp⟩, by simp⟩
  · simp only [if_true] at hmm
    have : Inhabited (NdH × Nd) := ⟨(ndh0, nd0)⟩
    obtain ⟨Y, hY⟩ := choose_lt (α := NdH × Nd) (p := fun i y => (∀ j v, (encN y)[j]? = some v → w.cell? ((x.add (i * 10)).add j) = some v) ∧ NdV (fun k => k < w.heap.size) w.heap y ∧ okN y.2 ∧ smN y.2) (n := m) (fun i hi => by
      obtain ⟨cs', h1, h2⟩ := hx i hi
      rw [T.cells] at h1
      obtain ⟨_, hlen, hcell⟩ := World.cells?_some h1
      obtain ⟨y, hy, y1, y2, y3⟩ := open_node T h2
      refine ⟨y, fun j v hj => ?_, y1, y2, y3⟩
      rw [← hy] at hj
      have hjl := (List.getElem?_eq_some_iff.1 hj).1
      rw [hcell j (by omega)]
      rw [← hj])
    refine ⟨some x, c', (List.range l).map Y, by simpa [Value.cells] using hcs, ⟨⟨by simp; omega, hm, fun _ => by simp, fun i u hu j v hj => ?_⟩, fun y hy => ?_⟩, fun y hy => ?_⟩
    · rw [List.getElem?_map] at hu
      obtain ⟨q, hq, rfl⟩ := Option.map_eq_some_iff.1 hu
      have hqi : q = i ∧ i < l := by
        have := List.getElem?_eq_some_iff.1 hq; obtain ⟨h1, h2⟩ := this; simp at h1 h2; omega
      obtain ⟨rfl, hil⟩ := hqi
      have h1 := (hY q (by omega)).1 j v hj
      show w.cell? (x.add (q * 10 + j)) = some v
      rw [← adr_add]; exact h1
    · obtain ⟨q, hq, rfl⟩ := List.mem_map.1 hy
      exact (hY q (by have := List.mem_range.1 hq; omega)).2.1
    · obtain ⟨q, hq, rfl⟩ := List.mem_map.1 hy
      exact (hY q (by have := List.mem_range.1 hq; omega)).2.2
end
end Go.Proofs.Ytpamandneifemaa
