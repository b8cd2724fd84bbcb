/- slices.SortStableFunc over numbers: places that are changed with one another; swapRange, rotate. No condition beyond the bounds that each states. -/
import Derived.Test.YtpnfjfbfgaiolaaTrU
import Derived.Test.YtpnfjfbfgaiolaaMu
namespace Go.Proofs.Ytpnfjfbfgaiolaa
open Go Go.RowKit
set_option linter.unusedVariables false

theorem gd_set {xs : List Int} {i k : Nat} {u : Int} (hi : i < xs.length) : (xs.set i u).getD k 0 = if k = i then u else xs.getD k 0 := by
  by_cases h : k = i
  · subst h; rw [if_pos rfl, List.getD, List.getElem?_set_self hi]; rfl
  · rw [if_neg h, List.getD, List.getElem?_set_ne (fun e => h e.symm)]; rfl
/-- two places changed -/
def wx (i j k : Nat) : Nat := if k = j then i else if k = i then j else k
def swapL (xs : List Int) (i j : Nat) : List Int := (xs.set i (xs.getD j 0)).set j (xs.getD i 0)
theorem swap_len (xs : List Int) (i j : Nat) : (swapL xs i j).length = xs.length := by simp [swapL]
theorem gd_swap {xs : List Int} {i j k : Nat} (hi : i < xs.length) (hj : j < xs.length) : (swapL xs i j).getD k 0 = xs.getD (wx i j k) 0 := by
  unfold swapL wx
  rw [gd_set (by simpa using hj), gd_set hi]
  by_cases h1 : k = j
  · rw [if_pos h1, if_pos h1]
  · rw [if_neg h1, if_neg h1]
    by_cases h2 : k = i
    · rw [if_pos h2, if_pos h2]
    · rw [if_neg h2, if_neg h2]
theorem swap_perm {xs : List Int} {i j : Nat} (hi : i < xs.length) (hj : j < xs.length) : (swapL xs i j).Perm xs := by
  have h := Array.swap_perm (xs := xs.toArray) (i := i) (j := j) (by simpa using hi) (by simpa using hj)
  have e1 : xs.getD j 0 = xs[j] := by simp [List.getD, hj]
  have e2 : xs.getD i 0 = xs[i] := by simp [List.getD, hi]
  have e : (xs.toArray.swap i j (by simpa using hi) (by simpa using hj)).toList = swapL xs i j := by
    unfold swapL; rw [e1, e2]; simp [Array.swap]
  have h2 := Array.perm_iff_toList_perm.1 h
  rw [e] at h2; exact h2
theorem gd_ext {xs ys : List Int} (hl : xs.length = ys.length) (h : ∀ k, xs.getD k 0 = ys.getD k 0) : xs = ys := by
  apply List.ext_getElem hl
  intro i h1 h2
  have := h i
  simpa [List.getD, h1, h2] using this

/-- two rows of places, changed with one another -/
def sx (a b n k : Nat) : Nat := if a ≤ k ∧ k < a + n then k - a + b else if b ≤ k ∧ k < b + n then k - b + a else k
theorem sx_spec (a b n k : Nat) : (a ≤ k ∧ k < a + n ∧ sx a b n k = k - a + b) ∨ (¬ (a ≤ k ∧ k < a + n) ∧ b ≤ k ∧ k < b + n ∧ sx a b n k = k - b + a) ∨ (¬ (a ≤ k ∧ k < a + n) ∧ ¬ (b ≤ k ∧ k < b + n) ∧ sx a b n k = k) := by
  unfold sx
  by_cases h1 : a ≤ k ∧ k < a + n
  · rw [if_pos h1]; exact .inl ⟨h1.1, h1.2, rfl⟩
  · rw [if_neg h1]
    by_cases h2 : b ≤ k ∧ k < b + n
    · rw [if_pos h2]; exact .inr (.inl ⟨h1, h2.1, h2.2, rfl⟩)
    · rw [if_neg h2]; exact .inr (.inr ⟨h1, h2, rfl⟩)
theorem sx_zero (a b k : Nat) : sx a b 0 k = k := by have := sx_spec a b 0 k; omega
theorem wx_spec (i j k : Nat) : (k = j ∧ wx i j k = i) ∨ (k ≠ j ∧ k = i ∧ wx i j k = j) ∨ (k ≠ j ∧ k ≠ i ∧ wx i j k = k) := by
  unfold wx
  by_cases h1 : k = j
  · rw [if_pos h1]; exact .inl ⟨h1, rfl⟩
  · rw [if_neg h1]
    by_cases h2 : k = i
    · rw [if_pos h2]; exact .inr (.inl ⟨h1, h2, rfl⟩)
    · rw [if_neg h2]; exact .inr (.inr ⟨h1, h2, rfl⟩)
theorem sx_succ {a b i k : Nat} (h : a + i < b) : sx a b i (wx (a + i) (b + i) k) = sx a b (i + 1) k := by
  have h1 := wx_spec (a + i) (b + i) k
  have h2 := sx_spec a b i (wx (a + i) (b + i) k)
  have h3 := sx_spec a b (i + 1) k
  omega
/-- two rows of places, one beside the other, turned about -/
def rx (a m b k : Nat) : Nat := if a ≤ k ∧ k < a + (b - m) then k - a + m else if a + (b - m) ≤ k ∧ k < b then k - (b - m) else k
theorem rx_spec (a m b k : Nat) : (a ≤ k ∧ k < a + (b - m) ∧ rx a m b k = k - a + m) ∨ (¬ (a ≤ k ∧ k < a + (b - m)) ∧ a + (b - m) ≤ k ∧ k < b ∧ rx a m b k = k - (b - m)) ∨ (¬ (a ≤ k ∧ k < a + (b - m)) ∧ ¬ (a + (b - m) ≤ k ∧ k < b) ∧ rx a m b k = k) := by
  unfold rx
  by_cases h1 : a ≤ k ∧ k < a + (b - m)
  · rw [if_pos h1]; exact .inl ⟨h1.1, h1.2, rfl⟩
  · rw [if_neg h1]
    by_cases h2 : a + (b - m) ≤ k ∧ k < b
    · rw [if_pos h2]; exact .inr (.inl ⟨h1, h2.1, h2.2, rfl⟩)
    · rw [if_neg h2]; exact .inr (.inr ⟨h1, h2, rfl⟩)
theorem rx_gt {m i j k : Nat} (h : j < i) (hj : 0 < j) (him : i ≤ m) : sx (m - i) m j (rx (m - (i - j)) m (m + j) k) = rx (m - i) m (m + j) k := by
  have h1 := rx_spec (m - (i - j)) m (m + j) k
  have h2 := sx_spec (m - i) m j (rx (m - (i - j)) m (m + j) k)
  have h3 := rx_spec (m - i) m (m + j) k
  omega
theorem rx_lt {m i j k : Nat} (h : i < j) (hi : 0 < i) (him : i ≤ m) : sx (m - i) (m + (j - i)) i (rx (m - i) m (m + (j - i)) k) = rx (m - i) m (m + j) k := by
  have h1 := rx_spec (m - i) m (m + (j - i)) k
  have h2 := sx_spec (m - i) (m + (j - i)) i (rx (m - i) m (m + (j - i)) k)
  have h3 := rx_spec (m - i) m (m + j) k
  omega
theorem rx_eq {m i k : Nat} (him : i ≤ m) : sx (m - i) m i k = rx (m - i) m (m + i) k := by
  have h2 := sx_spec (m - i) m i k
  have h3 := rx_spec (m - i) m (m + i) k
  omega
end Go.Proofs.Ytpnfjfbfgaiolaa
