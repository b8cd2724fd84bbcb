/- From the data that a law is handed to what its walk asks: structs, cell by cell; a record. No condition. -/
import Derived.Test.YtoaplldahbbaiaaKE
import Derived.Test.YtoaplldahbbaiaaLiftXk
import Derived.Deep.Fields
namespace Go.Proofs.Ytoaplldahbbaiaa
open Go Go.RowKit Go.ChangeShapes Go.WideShapes Go.ChangeAt Go.Deep
set_option linter.unusedVariables false

section
variable {H : Type} {enc : TypeId × Value → H} {P : Program} {w : World} {t e : TypeId} {d : DataW H} {p : List MemPlace}

theorem open_struct1 {fs : Array Field} (ht : P.underlying t = some (.struct fs)) (hone : ∀ (i : Nat) (f : Field), fs[i]? = some f → f.offset = i ∧ P.cellsOf f.type = 1) (hc : P.cellsOf t = fs.size) {fuel : Nat} {cs : List Value} {x : DataW H × List MemPlace}
    (h : DataW.trod enc P w 0 (fun _ => true) true fuel t cs = some x) : cs.length = fs.size ∧ ∃ n, ∀ (i : Nat) (f : Field), fs[i]? = some f → ∃ v y, cs[i]? = some v ∧ DataW.trod enc P w 0 (fun _ => true) true n f.type [v] = some y := by
  obtain ⟨xs, n, _, _, hl, hxl, hf⟩ := DataW.trod_struct ht h
  rw [hc] at hl
  refine ⟨hl, n, fun i f hi => ?_⟩
  have hlt : i < fs.size := (Array.getElem?_eq_some_iff.1 hi).1
  obtain ⟨ho, h1⟩ := hone i f hi
  have g := hf i f hi
  rw [ho, h1, take1_drop cs i undef (by omega), List.getElem?_eq_getElem (by omega)] at g
  exact ⟨cs.getD i undef, _, by simp [List.getD, List.getElem?_eq_getElem (show i < cs.length by omega)], g⟩

def inoB (P : Program) (fs : Array Field) : Bool := oneCellFields P fs && Nat.beq fs.size 11 && (List.range 11).all fun i => match fs[i]? with
  | some f => (match P.underlying f.type with | some (.int .i64) => Nat.blt i 10 | some .string => Nat.beq i 10 | _ => false)
  | none => false
def intAt (cs : List Value) (i : Nat) : Int := match cs[i]? with | some (.int _ n) => n | _ => 0
def strAt (cs : List Value) (i : Nat) : List UInt8 := match cs[i]? with | some (.string s) => s.data.toList | _ => []

theorem open_ino {fs : Array Field} (ht : P.underlying t = some (.struct fs)) (hb : inoB P fs = true) (hc : P.cellsOf t = 11) {fuel : Nat} {cs : List Value} {x : DataW H × List MemPlace}
    (h : DataW.trod enc P w 0 (fun _ => true) true fuel t cs = some x) : ∃ (F : Nat → Int) (T : List UInt8), cs = inoC F T ∧ T.length ≤ maxLen := by
  simp only [inoB, Bool.and_eq_true, Nat.beq_eq] at hb
  obtain ⟨⟨h1, h2⟩, h3⟩ := hb
  obtain ⟨hl, n, hall⟩ := open_struct1 ht (hone_of h1) (by rw [hc, h2]) h
  have hty : ∀ i, i < 11 → ∃ f, fs[i]? = some f ∧ (i < 10 → P.underlying f.type = some (.int .i64)) ∧ (i = 10 → P.underlying f.type = some .string) := fun i hi => by
    have h4 := List.all_eq_true.1 h3 i (List.mem_range.2 hi)
    cases hf : fs[i]? with
    | none => simp [hf] at h4
    | some f =>
      refine ⟨f, rfl, fun h10 => ?_, fun h10 => ?_⟩
      · simp only [hf] at h4
        split at h4
        · assumption
        · simp at h4; omega
        · cases h4
      · simp only [hf] at h4
        split at h4
        · simp [Nat.blt_eq] at h4; omega
        · assumption
        · cases h4
  have hi : ∀ i, i < 10 → cs[i]? = some (.int .i64 (intAt cs i)) := fun i h10 => by
    obtain ⟨f, hf, h5, _⟩ := hty i (by omega)
    obtain ⟨v, y, h6, h7⟩ := hall i f hf
    obtain ⟨m, hm, _⟩ := DataW.trod_int (h5 h10) h7
    have : v = .int .i64 m := by simpa using hm
    subst this
    rw [h6]; simp [intAt, h6]
  obtain ⟨f, hf, _, h5⟩ := hty 10 (by decide)
  obtain ⟨v, y, h6, h7⟩ := hall 10 f hf
  obtain ⟨s, hs, _, hsz⟩ := DataW.trod_string (h5 rfl) h7
  have hv : v = .string s := by simpa using hs
  subst hv
  refine ⟨intAt cs, s.data.toList, ?_, hsz⟩
  apply List.ext_getElem?
  intro i
  by_cases h11 : i < 11
  · by_cases h10 : i < 10
    · rw [hi i h10, inoC_get _ _ h10]
    · have : i = 10 := by omega
      subst this
      rw [h6]; rfl
  · rw [List.getElem?_eq_none (by omega), List.getElem?_eq_none (by simp [inoC]; omega)]
end
end Go.Proofs.Ytoaplldahbbaiaa
