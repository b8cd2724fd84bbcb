/- strings.IndexByte; attributes in memory. No condition beyond the bounds that each states. -/
import Derived.Test.YtpamandneifemaaGenk
namespace Go.Proofs.Ytpamandneifemaa
open Go Go.RowKit
set_option linter.unusedVariables false

/-! strings.IndexByte -/
theorem nul_neg {s : List UInt8} (h : Lib.indexByte s (0 : Int).toNat.toUInt8 < 0) : (0 : UInt8) ∉ s := (indexByte_neg s 0).1 h
theorem nul_pos {s : List UInt8} (h : 0 ≤ Lib.indexByte s (0 : Int).toNat.toUInt8) : (0 : UInt8) ∈ s := by
  apply Classical.byContradiction; intro hn
  have := (indexByte_neg s 0).2 hn
  have h2 : Lib.indexByte s (0 : Int).toNat.toUInt8 = Lib.indexByte s 0 := rfl
  omega

theorem less_not : ∀ a b : List UInt8, (Op.bytesLess a b || a == b) = !Op.bytesLess b a
  | [], [] => rfl
  | [], _ :: _ => rfl
  | _ :: _, [] => rfl
  | x :: a, y :: b => by
    have ih := less_not a b
    unfold Op.bytesLess
    rcases Nat.lt_trichotomy x.toNat y.toNat with h | h | h
    · have h1 : x < y := UInt8.lt_iff_toNat_lt.2 h
      have h2 : ¬ y < x := by rw [UInt8.lt_iff_toNat_lt]; omega
      have h3 : x ≠ y := by intro e; subst e; omega
      simp [h1, h2, Ne.symm h3]
    · have h1 : x = y := UInt8.toNat_inj.1 h
      subst h1
      have h2 : ¬ x < x := by rw [UInt8.lt_iff_toNat_lt]; omega
      simpa [h2] using ih
    · have h1 : y < x := UInt8.lt_iff_toNat_lt.2 h
      have h2 : ¬ x < y := by rw [UInt8.lt_iff_toNat_lt]; omega
      have h3 : x ≠ y := by intro e; subst e; omega
      simp [h1, h2, h3]
theorem less_nil (a : List UInt8) : Op.bytesLess [] a = true ↔ a ≠ [] := by cases a <;> simp [Op.bytesLess]
theorem less_ne {a b : List UInt8} (h : Op.bytesLess a b = true) : b ≠ [] := by intro e; subst e; cases a <;> simp [Op.bytesLess] at h

/-! attributes -/
abbrev Xa := List UInt8 × List UInt8
def x0 : Xa := ([], [])
def encX (x : List UInt8 × Hd) : List Value := [.string (bs x.1), hd x.2]
theorem encX_cells : CellsM 2 encX := fun x => ⟨rfl, by simp [encX, Value.oneCell', hd]⟩
def XaV (H : Array Obj) (ao : Option Addr) (cap : Nat) (X : List Xa) : Prop :=
  ∃ xs : List (List UInt8 × Hd), VwM 2 encX H ao cap xs ∧ xs.length = X.length ∧ ∀ (i : Nat) (x : List UInt8 × Hd) (y : Xa), xs[i]? = some x → X[i]? = some y → x.1 = y.1 ∧ x.2.n = y.2.length ∧ Vw b8 H x.2.a x.2.c y.2 ∧ y.1.length ≤ maxLen
theorem Vw.grow' {α : Type} {enc : α → Value} {w w' : World} {ao : Option Addr} {cap : Nat} {xs : List α} (h : Vw enc w.heap ao cap xs) (f : Foot nob w w') : Vw enc w'.heap ao cap xs := h.grow f
theorem XaV.grow {w w' : World} {ao : Option Addr} {cap : Nat} {X : List Xa} (h : XaV w.heap ao cap X) (f : Foot nob w w') : XaV w'.heap ao cap X := by
  obtain ⟨xs, h1, h2, h3⟩ := h
  exact ⟨xs, h1.grow f, h2, fun i x y hx hy => ⟨(h3 i x y hx hy).1, (h3 i x y hx hy).2.1, (h3 i x y hx hy).2.2.1.grow f, (h3 i x y hx hy).2.2.2⟩⟩
theorem XaV.non {H : Array Obj} {ao : Option Addr} {cap : Nat} {X : List Xa} (h : XaV H ao cap X) : X.length ≠ 0 → ao ≠ none := by
  obtain ⟨xs, h1, h2, h3⟩ := h; rw [← h2]; exact h1.non
theorem XaV.len63 {H : Array Obj} {ao : Option Addr} {cap : Nat} {X : List Xa} (h : XaV H ao cap X) : (X.length : Int) ≤ 9223372036854775807 := by
  obtain ⟨xs, h1, h2, h3⟩ := h; rw [← h2]; exact h1.len63
theorem XaV.le {H : Array Obj} {ao : Option Addr} {cap : Nat} {X : List Xa} (h : XaV H ao cap X) : X.length ≤ cap := by
  obtain ⟨xs, h1, h2, h3⟩ := h; rw [← h2]; exact h1.le
theorem XaV.take {H : Array Obj} {ao : Option Addr} {cap : Nat} {X : List Xa} (h : XaV H ao cap X) (n : Nat) : XaV H ao cap (X.take n) := by
  obtain ⟨xs, h1, h2, h3⟩ := h
  refine ⟨xs.take n, h1.take n, by simp [h2], fun i x y hx hy => ?_⟩
  rw [List.getElem?_take] at hx hy
  by_cases hi : i < n
  · rw [if_pos hi] at hx hy; exact h3 i x y hx hy
  · rw [if_neg hi] at hx; cases hx
theorem XaV.at {H : Array Obj} {ao : Option Addr} {cap : Nat} {X : List Xa} (h : XaV H ao cap X) {i : Nat} {z : Int} (hz : z = i) (hi : i < X.length) :
    ∃ xa xc, (∀ j v, [Value.string (bs (X.getD i x0).1), .slice xa (X.getD i x0).2.length xc][j]? = some v → cellH H ((adr ao (z.toNat * 2)).add j) = some v) ∧ Vw b8 H xa xc (X.getD i x0).2 ∧ (X.getD i x0).1.length ≤ maxLen := by
  obtain ⟨xs, h1, h2, h3⟩ := h
  have hi2 : i < xs.length := by omega
  have e : X.getD i x0 = X[i] := by simp [List.getD, hi]
  rw [e]
  obtain ⟨e1, e2, e3, e4⟩ := h3 i xs[i] X[i] (List.getElem?_eq_getElem hi2) (List.getElem?_eq_getElem hi)
  have hrow := h1.rowZ i hz (List.getElem?_eq_getElem hi2)
  refine ⟨xs[i].2.a, xs[i].2.c, fun j v hv => hrow j v ?_, e3, e4⟩
  rw [← hv, ← e1, ← e2]; rfl

def prevX (X : List Xa) : Nat → List UInt8
  | 0 => []
  | i + 1 => (X.getD i x0).1
def goodX (X : List Xa) (i : Nat) : Prop := Op.bytesLess (prevX X i) (X.getD i x0).1 = true ∧ (X.getD i x0).1.length ≤ 40 ∧ (0 : UInt8) ∉ (X.getD i x0).1 ∧ (X.getD i x0).2.length ≤ 200
instance (X : List Xa) (i : Nat) : Decidable (goodX X i) := by unfold goodX; exact inferInstance
def mayX (X : List Xa) : Prop := (∀ i, i < X.length → goodX X i) ∧ X.length ≤ 8
instance (X : List Xa) : Decidable (mayX X) := by unfold mayX; exact inferInstance

end Go.Proofs.Ytpamandneifemaa
