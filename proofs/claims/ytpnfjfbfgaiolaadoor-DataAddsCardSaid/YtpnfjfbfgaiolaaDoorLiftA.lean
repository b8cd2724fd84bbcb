/- From the data that a law is handed to what its walk asks: a slice of structs of three integers. No condition. -/
import Derived.Test.YtpnfjfbfgaiolaaDoorLift
import Derived.Deep.Fields
namespace Go.Proofs.YtpnfjfbfgaiolaaDoor
open Go Go.RowKit Go.ChangeShapes Go.WideShapes Go.ChangeAt Go.Deep
set_option linter.unusedVariables false

def askV (x : Int × Int × Int) : List Value := [.int .i64 x.1, .int .i64 x.2.1, .int .i64 x.2.2]
def askB (P : Program) (fs : Array Field) : Bool := oneCellFields P fs && Nat.beq fs.size 3 && (List.range 3).all fun i => match fs[i]? with
  | some f => (match P.underlying f.type with | some (.int .i64) => true | _ => false)
  | none => false
section
variable {H : Type} {enc : TypeId × Value → H} {P : Program} {w : World} {t e : TypeId} {d : DataW H} {p : List MemPlace}
theorem open_ask {fs : Array Field} (ht : P.underlying e = some (.struct fs)) (hb : askB P fs = true) (hc : P.cellsOf e = 3) {fuel : Nat} {cs : List Value} {x : DataW H × List MemPlace}
    (h : DataW.trod enc P w 0 (fun _ => true) true fuel e cs = some x) : ∃ y : Int × Int × Int, cs = askV y ∧ (Lit.int .i64 y.1).wf = true ∧ (Lit.int .i64 y.2.1).wf = true ∧ (Lit.int .i64 y.2.2).wf = true := by
  simp only [askB, Bool.and_eq_true, Nat.beq_eq] at hb
  obtain ⟨⟨h1, h2⟩, h3⟩ := hb
  obtain ⟨xs, n, _, _, hl, hxl, hf⟩ := DataW.trod_struct ht h
  rw [hc] at hl
  have key : ∀ i, i < 3 → ∃ n : Int, cs[i]? = some (.int .i64 n) ∧ (Lit.int .i64 n).wf = true := fun i hi => by
    have h4 := List.all_eq_true.1 h3 i (List.mem_range.2 hi)
    cases hfi : fs[i]? with
    | none => simp [hfi] at h4
    | some f =>
      obtain ⟨ho, h5⟩ := hone_of h1 i f hfi
      have g := hf i f hfi
      rw [ho, h5, take1_drop cs i undef (by omega), List.getElem?_eq_getElem (by omega)] at g
      simp only [hfi] at h4
      have hty : P.underlying f.type = some (.int .i64) := by
        split at h4
        · assumption
        · cases h4
      obtain ⟨m, hm, _, hw⟩ := DataW.trod_int hty g
      refine ⟨m, ?_, hw⟩
      rw [List.getElem?_eq_getElem (by omega)]
      have : cs.getD i undef = .int .i64 m := by simpa using hm
      rw [← this]; simp [List.getD, List.getElem?_eq_getElem (show i < cs.length by omega)]
  obtain ⟨a, ha, wa⟩ := key 0 (by decide)
  obtain ⟨b, hb, wb⟩ := key 1 (by decide)
  obtain ⟨c, hc2, wc⟩ := key 2 (by decide)
  refine ⟨(a, b, c), ?_, wa, wb, wc⟩
  apply List.ext_getElem?
  intro i
  match i with
  | 0 => rw [ha]; rfl
  | 1 => rw [hb]; rfl
  | 2 => rw [hc2]; rfl
  | i + 3 => rw [List.getElem?_eq_none (by omega)]; rfl
theorem open_asks {fs : Array Field} (ht : P.underlying t = some (.slice e)) (he : P.underlying e = some (.struct fs)) (hb : askB P fs = true) (hc : P.cellsOf e = 3) {v : Value} (h : DataW.Trod enc P w 0 (fun _ => true) true t v d p) (hv : ∃ a n c, v = .slice a n c) :
    ∃ (a : Option Addr) (cap : Nat) (xs : List (Int × Int × Int)), v = .slice a xs.length cap ∧ VwM 3 askV w.heap a cap xs ∧ ∀ x ∈ xs, (Lit.int .i64 x.1).wf = true ∧ (Lit.int .i64 x.2.1).wf = true ∧ (Lit.int .i64 x.2.2).wf = true := by
  obtain ⟨fuel, hf⟩ := h
  obtain ⟨a, n, c, rfl⟩ := hv
  rcases open_slice ht hf with ⟨hcs, _⟩ | ⟨x, l, c', m, n', D, Pl, hcs, _, hl, hm, hmm, _, hx⟩
  · refine ⟨none, 0, [], by simpa [Value.cells] using hcs, VwM.nil 0 (Nat.zero_le _), by simp⟩
  · simp only [if_true] at hmm
    have : Inhabited (Int × Int × Int) := ⟨(0, 0, 0)⟩
    obtain ⟨Y, hY⟩ := choose_lt (α := Int × Int × Int) (p := fun i y => (∀ j v, (askV y)[j]? = some v → w.cell? ((x.add (i * 3)).add j) = some v) ∧ (Lit.int .i64 y.1).wf = true ∧ (Lit.int .i64 y.2.1).wf = true ∧ (Lit.int .i64 y.2.2).wf = true) (n := m) (fun i hi => by
      obtain ⟨cs', h1, h2⟩ := hx i hi
      rw [hc] at h1
      obtain ⟨_, hlen, hcell⟩ := World.cells?_some h1
      obtain ⟨y, hy, w1, w2, w3⟩ := open_ask he hb hc h2
      refine ⟨y, fun j v hj => ?_, w1, w2, w3⟩
      rw [← hy] at hj
      have hjl := (List.getElem?_eq_some_iff.1 hj).1
      rw [hcell j (by omega)]
      rw [← hj])
    refine ⟨some x, c', (List.range l).map Y, by simpa [Value.cells] using hcs, ⟨by simp; omega, hm, fun _ => by simp, fun i u hu j v hj => ?_⟩, fun y hy => ?_⟩
    · rw [List.getElem?_map] at hu
      obtain ⟨k, hk, rfl⟩ := Option.map_eq_some_iff.1 hu
      have hki : k = i ∧ i < l := by
        have := List.getElem?_eq_some_iff.1 hk; obtain ⟨h1, h2⟩ := this; simp at h1 h2; omega
      obtain ⟨rfl, hil⟩ := hki
      have h1 := (hY k (by omega)).1 j v hj
      show w.cell? (x.add (k * 3 + j)) = some v
      rw [← adr_add]; exact h1
    · obtain ⟨k, hk, rfl⟩ := List.mem_map.1 hy
      exact (hY k (by have := List.mem_range.1 hk; omega)).2
end
end Go.Proofs.YtpnfjfbfgaiolaaDoor
