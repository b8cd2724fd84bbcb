/- meta: refs of rows. No condition. -/
import Derived.Test.YtoaplldahbbaiaaKD
import Derived.Test.YtoaplldahbbaiaaGck
namespace Go.Proofs.Ytoaplldahbbaiaa
open Go Go.RowKit
set_option linter.unusedVariables false

theorem take_snocI {α : Type} {L : List α} {i : Nat} (d : α) (h : i < L.length) : L.take (i + 1) = L.take i ++ [L.getD i d] := by
  rw [List.take_succ_eq_append_getElem h]; simp [List.getD, h]
/-- the refs of rows -/
def refsA (M : List (List UInt8)) : List Int := (List.range M.length).map fun j => ((refT (M.take j).flatten (M.take j).flatten.length : Nat) : Int)
theorem refsA_len (M : List (List UInt8)) : (refsA M).length = M.length := by simp [refsA]
theorem refsA_snoc (M : List (List UInt8)) (b : List UInt8) : refsA (M ++ [b]) = refsA M ++ [((refT M.flatten M.flatten.length : Nat) : Int)] := by
  unfold refsA
  rw [List.length_append, List.length_singleton, List.range_succ, List.map_append]
  congr 1
  · apply List.map_congr_left
    intro j hj
    have := List.mem_range.1 hj
    rw [List.take_append_of_le_length (by omega)]
  · simp
theorem refsA_at {M : List (List UInt8)} {i : Nat} (h : i < M.length) : (refsA M).getD i 0 = ((refT (M.take i).flatten (M.take i).flatten.length : Nat) : Int) := by
  simp [refsA, List.getD, h]
theorem refT_in {M : List (List UInt8)} (z : List UInt8) (i : Nat) : refT (M.take i).flatten (M.take i).flatten.length = refT (M.flatten ++ z) (M.take i).flatten.length := by
  have e : M.flatten ++ z = (M.take i).flatten ++ ((M.drop i).flatten ++ z) := by rw [← List.append_assoc, ← List.flatten_append, List.take_append_drop]
  rw [refT_take (T := M.flatten ++ z) (by rw [e, List.length_append]; omega), e, List.take_left' rfl]
theorem drop_in {M : List (List UInt8)} (z : List UInt8) {i : Nat} (h : i < M.length) : (M.flatten ++ z).drop (M.take i).flatten.length = M.getD i [] ++ ((M.drop (i + 1)).flatten ++ z) := by
  have e : M.flatten ++ z = (M.take i).flatten ++ (M.getD i [] ++ ((M.drop (i + 1)).flatten ++ z)) := by
    conv => lhs; rw [← List.take_append_drop (i + 1) M, List.flatten_append, take_snocI [] h, List.flatten_append]
    simp
  rw [e, List.drop_left' rfl]
theorem flat_snoc {M : List (List UInt8)} {i : Nat} (h : i < M.length) : (M.take (i + 1)).flatten.length = (M.take i).flatten.length + (M.getD i []).length := by
  rw [take_snocI [] h, List.flatten_append, List.length_append]; simp
end Go.Proofs.Ytoaplldahbbaiaa
