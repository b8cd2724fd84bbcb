/- From the data that a law is handed to what its walk asks: a slice of structs of so many integers. No condition. -/
import Derived.Test.YtpnfjfbfgaiolaaDoorLiftk
import Derived.Deep.Fields
namespace Go.Proofs.YtpnfjfbfgaiolaaDoor
open Go Go.RowKit Go.ChangeShapes Go.WideShapes Go.ChangeAt Go.Deep
set_option linter.unusedVariables false

def askN (k : Nat) (F : Nat → Int) : List Value := (List.range k).map fun i => .int .i64 (F i)
def askNB (P : Program) (fs : Array Field) (k : Nat) : Bool := oneCellFields P fs && Nat.beq fs.size k && (List.range k).all fun i => match fs[i]? with
  | some f => (match P.underlying f.type with | some (.int .i64) => true | _ => false)
  | none => false
section
variable {H : Type} {enc : TypeId × Value → H} {P : Program} {w : World} {t e : TypeId} {d : DataW H} {p : List MemPlace} {k : Nat}
theorem open_askN {fs : Array Field} (ht : P.underlying e = some (.struct fs)) (hb : askNB P fs k = true) (hc : P.cellsOf e = k) {fuel : Nat} {cs : List Value} {x : DataW H × List MemPlace}
    (h : DataW.trod enc P w 0 (fun _ => true) true fuel e cs = some x) : ∃ F : Nat → Int, cs = askN k F ∧ ∀ i, (Lit.int .i64 (F i)).wf = true := by
  simp only [askNB, Bool.and_eq_true, Nat.beq_eq] at hb
  obtain ⟨⟨h1, h2⟩, h3⟩ := hb
  obtain ⟨xs, n, _, _, hl, hxl, hf⟩ := DataW.trod_struct ht h
  rw [hc] at hl
  have key : ∀ i, i < k → ∃ n : Int, cs[i]? = some (.int .i64 n) ∧ (Lit.int .i64 n).wf = true := fun i hi => by
    have h4 := List.all_eq_true.1 h3 i (List.mem_range.2 hi)
    cases hfi : fs[i]? with
    | none => simp [hfi] at h4
    | some f =>
      obtain ⟨ho, h5⟩ := hone_of h1 i f hfi
      have g := hf i f hfi
      rw [ho, h5, take1_drop cs i undef (by omega), List.getElem?_eq_getElem (by omega)] at g
      simp only [hfi] at h4
      have hty : P.underlying f.type = some (.int .i64) := by
        split at h4
        · assumption
        · cases h4
      obtain ⟨m, hm, _, hw⟩ := DataW.trod_int hty g
      refine ⟨m, ?_, hw⟩
      rw [List.getElem?_eq_getElem (by omega)]
      have : cs.getD i undef = .int .i64 m := by simpa using hm
      rw [← this]; simp [List.getD, List.getElem?_eq_getElem (show i < cs.length by omega)]
  have : ∀ i, ∃ n : Int, (i < k → cs[i]? = some (.int .i64 n)) ∧ (Lit.int .i64 n).wf = true := fun i => by
    by_cases hi : i < k
    · obtain ⟨n, h1, h2⟩ := key i hi
      exact ⟨n, fun _ => h1, h2⟩
    · exact ⟨0, fun h => absurd h hi, by decide⟩
  refine ⟨fun i => Classical.choose (this i), List.ext_getElem? fun i => ?_, fun i => (Classical.choose_spec (this i)).2⟩
  unfold askN
  by_cases hi : i < k
  · rw [(Classical.choose_spec (this i)).1 hi]; simp [hi]
  · rw [List.getElem?_eq_none (by omega)]; simp [hi]
theorem open_asksN {fs : Array Field} (ht : P.underlying t = some (.slice e)) (he : P.underlying e = some (.struct fs)) (hb : askNB P fs k = true) (hc : P.cellsOf e = k) {v : Value} (h : DataW.Trod enc P w 0 (fun _ => true) true t v d p) (hv : ∃ a n c, v = .slice a n c) :
    ∃ (a : Option Addr) (cap : Nat) (xs : List (Nat → Int)), v = .slice a xs.length cap ∧ VwM k (askN k) w.heap a cap xs ∧ ∀ x ∈ xs, ∀ i, (Lit.int .i64 (x i)).wf = true := by
  obtain ⟨fuel, hf⟩ := h
  obtain ⟨a, n, c, rfl⟩ := hv
  rcases open_slice ht hf with ⟨hcs, _⟩ | ⟨x, l, c', m, n', D, Pl, hcs, _, hl, hm, hmm, _, hx⟩
  · refine ⟨none, 0, [], by simpa [Value.cells] using hcs, VwM.nil 0 (Nat.zero_le _), by simp⟩
  · simp only [if_true] at hmm
    have : Inhabited (Nat → Int) := ⟨fun _ => 0⟩
    obtain ⟨Y, hY⟩ := choose_lt (α := Nat → Int) (p := fun i y => (∀ j v, (askN k y)[j]? = some v → w.cell? ((x.add (i * k)).add j) = some v) ∧ ∀ i, (Lit.int .i64 (y i)).wf = true) (n := m) (fun i hi => by
      obtain ⟨cs', h1, h2⟩ := hx i hi
      rw [hc] at h1
      obtain ⟨_, hlen, hcell⟩ := World.cells?_some h1
      obtain ⟨y, hy, w1⟩ := open_askN he hb hc h2
      refine ⟨y, fun j v hj => ?_, w1⟩
      rw [← hy] at hj
      have hjl := (List.getElem?_eq_some_iff.1 hj).1
      rw [hcell j (by omega)]
      rw [← hj])
    refine ⟨some x, c', (List.range l).map Y, by simpa [Value.cells] using hcs, ⟨by simp; omega, hm, fun _ => by simp, fun i u hu j v hj => ?_⟩, fun y hy => ?_⟩
    · rw [List.getElem?_map] at hu
      obtain ⟨q, hq, rfl⟩ := Option.map_eq_some_iff.1 hu
      have hqi : q = i ∧ i < l := by
        have := List.getElem?_eq_some_iff.1 hq; obtain ⟨h1, h2⟩ := this; simp at h1 h2; omega
      obtain ⟨rfl, hil⟩ := hqi
      have h1 := (hY q (by omega)).1 j v hj
      show w.cell? (x.add (q * k + j)) = some v
      rw [← adr_add]; exact h1
    · obtain ⟨q, hq, rfl⟩ := List.mem_map.1 hy
      exact (hY q (by have := List.mem_range.1 hq; omega)).2
end
end Go.Proofs.YtpnfjfbfgaiolaaDoor
