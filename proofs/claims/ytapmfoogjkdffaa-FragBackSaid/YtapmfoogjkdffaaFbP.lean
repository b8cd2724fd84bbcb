/- frag: where a tail is found again: the plain law. No condition. -/
import Derived.Test.YtapmfoogjkdffaaFrH
import Derived.Test.YtapmfoogjkdffaaFrG
namespace Go.Proofs.Ytapmfoogjkdffaa
open Go Go.RowKit
set_option linter.unusedVariables false

/-- what was there is the beginning of what is there -/
def Ext (A B : List (List UInt8)) : Prop := A.length ≤ B.length ∧ ∀ q, q < A.length → ∃ z, B.getD q [] = A.getD q [] ++ z
theorem Ext.refl (A : List (List UInt8)) : Ext A A := ⟨Nat.le_refl _, fun q _ => ⟨[], by simp⟩⟩
theorem Ext.trans {A B C : List (List UInt8)} (h : Ext A B) (k : Ext B C) : Ext A C := ⟨Nat.le_trans h.1 k.1, fun q hq => by
  obtain ⟨z, hz⟩ := h.2 q hq
  obtain ⟨y, hy⟩ := k.2 q (Nat.lt_of_lt_of_le hq h.1)
  exact ⟨z ++ y, by rw [hy, hz, List.append_assoc]⟩⟩
theorem getD_app_left {α : Type} {A B : List α} {q : Nat} {d : α} (h : q < A.length) : (A ++ B).getD q d = A.getD q d := by
  rw [List.getD, List.getD, List.getElem?_append_left h]
theorem getD_app_last {α : Type} {A : List α} {x d : α} : (A ++ [x]).getD A.length d = x := by simp [List.getD]
theorem newL_ext (L : List (List UInt8)) (t : List UInt8) : Ext L (newL L t) := by
  by_cases hc : L = [] ∨ 128 < (L.getLast?.getD []).length + t.length
  · rw [newL_new L t hc]
    exact ⟨by simp, fun q hq => ⟨[], by rw [getD_app_left hq]; simp⟩⟩
  · rw [newL_old L t (fun e => hc (.inl e)) (fun e => hc (.inr e))]; exact Ext.refl L
theorem push_at {L : List (List UInt8)} {t : List UInt8} (h : L ≠ []) : (pushLast L t).length = L.length ∧ (pushLast L t).getD (L.length - 1) [] = L.getLast?.getD [] ++ t ∧ ∀ q, q < L.length - 1 → (pushLast L t).getD q [] = L.getD q [] := by
  have hl : L.dropLast.length = L.length - 1 := List.length_dropLast
  have hp := List.length_pos_iff.2 h
  refine ⟨pushLast_len L t h, ?_, fun q hq => ?_⟩
  · unfold pushLast; rw [← hl]; exact getD_app_last
  · unfold pushLast
    rw [getD_app_left (by omega), List.getD, List.getD, List.getElem?_dropLast, if_pos (by omega)]
theorem push_ext {L : List (List UInt8)} {t : List UInt8} (h : L ≠ []) : Ext L (pushLast L t) := by
  obtain ⟨h1, h2, h3⟩ := push_at (t := t) h
  refine ⟨by omega, fun q hq => ?_⟩
  by_cases hl : q = L.length - 1
  · subst hl; exact ⟨t, by rw [h2, getD_last]⟩
  · exact ⟨[], by rw [h3 q (by omega)]; simp⟩
theorem add_ext (L : List (List UInt8)) (t : List UInt8) : Ext L (addL L t).1 := by
  by_cases hb : badT t = true
  · rw [addL_bad hb]; exact Ext.refl L
  · rw [addL_good (by simpa using hb)]; exact (newL_ext L t).trans (push_ext (newL_ne L t))
theorem stL_ext (M : List (List UInt8)) (i : Nat) : ∀ k, i + k ≤ M.length → Ext (stL (M.take i)) (stL (M.take (i + k)))
  | 0, _ => Ext.refl _
  | k + 1, h => (stL_ext M i k (by omega)).trans (by rw [show i + (k + 1) = (i + k) + 1 by omega, stL_succ M (i + k) (by omega)]; exact add_ext _ _)
/-- a tail stands there -/
def Stands (B : List (List UInt8)) (x : Int × Int × Int) (t : List UInt8) : Prop :=
  ∃ (n : Nat) (a z : List UInt8), n < B.length ∧ x = (((n + 1 : Nat) : Int), ((a.length : Nat) : Int), ((t.length : Nat) : Int)) ∧ B.getD n [] = a ++ (t ++ z) ∧ 0 < t.length
theorem Stands.ext {A B : List (List UInt8)} {x : Int × Int × Int} {t : List UInt8} (h : Stands A x t) (k : Ext A B) : Stands B x t := by
  obtain ⟨n, a, z, h1, h2, h3, h4⟩ := h
  obtain ⟨y, hy⟩ := k.2 n h1
  exact ⟨n, a, z ++ y, Nat.lt_of_lt_of_le h1 k.1, h2, by rw [hy, h3]; simp, h4⟩
theorem add_stands {L : List (List UInt8)} {t : List UInt8} (h : badT t = false) : Stands (addL L t).1 ((((addL L t).2.1 : Nat) : Int), (((addL L t).2.2 : Nat) : Int), ((t.length : Nat) : Int)) t := by
  rw [addL_good h]
  have hn := newL_ne L t
  obtain ⟨h1, h2, h3⟩ := push_at (t := t) hn
  have hp := List.length_pos_iff.2 hn
  have hg := badT_inv h
  refine ⟨(newL L t).length - 1, (newL L t).getLast?.getD [], [], by rw [h1]; omega, ?_, by rw [h2]; simp, hg.1⟩
  show ((((newL L t).length : Nat) : Int), _, _) = _
  rw [show (newL L t).length - 1 + 1 = (newL L t).length by omega]
/-- frames, one behind the other -/
def frB (B : List (List UInt8)) : List UInt8 := (B.map fun b => (putS b).1).flatten
theorem frB_snoc (B : List (List UInt8)) (k : Nat) (h : k < B.length) : frB (B.take (k + 1)) = frB (B.take k) ++ (putS (B.getD k [])).1 := by
  unfold frB
  rw [List.take_succ_eq_append_getElem h, List.map_append, List.flatten_append]
  simp [List.getD, h]
theorem frB_cut (B : List (List UInt8)) (k : Nat) (h : k < B.length) : ∃ z, frB B = frB (B.take k) ++ ((putS (B.getD k [])).1 ++ z) := by
  refine ⟨frB (B.drop (k + 1)), ?_⟩
  have e : frB B = frB (B.take (k + 1)) ++ frB (B.drop (k + 1)) := by
    unfold frB; rw [← List.flatten_append, ← List.map_append, List.take_append_drop]
  rw [e, frB_snoc B k h, List.append_assoc]
def plB (pre : List UInt8) (B : List (List UInt8)) (k : Nat) : List Int := (List.range k).map fun j => ((pre.length + (frB (B.take j)).length : Nat) : Int)
theorem plB_len (pre : List UInt8) (B : List (List UInt8)) (k : Nat) : (plB pre B k).length = k := by simp [plB]
theorem plB_snoc (pre : List UInt8) (B : List (List UInt8)) (k : Nat) : plB pre B (k + 1) = plB pre B k ++ [((pre.length + (frB (B.take k)).length : Nat) : Int)] := by simp [plB, List.range_succ]
theorem plB_at {pre : List UInt8} {B : List (List UInt8)} {k j : Nat} (h : j < k) : (plB pre B k).getD j 0 = ((pre.length + (frB (B.take j)).length : Nat) : Int) := by simp [plB, List.getD, h]
theorem frag_back {pre : List UInt8} {B : List (List UInt8)} (hB : ∀ b ∈ B, b.length ≤ 128) {x : Int × Int × Int} {t : List UInt8} (h : Stands B x t) : fragR (pre ++ frB B) (plB pre B B.length) x.1 x.2.1 x.2.2 = (t, 0) := by
  obtain ⟨n, a, z, h1, rfl, h3, h4⟩ := h
  have hb : (B.getD n []).length ≤ 128 := hB _ (by rw [List.getD, List.getElem?_eq_getElem h1]; exact List.getElem_mem _)
  obtain ⟨y, hy⟩ := frB_cut B n h1
  have ht := (takeS_put hb (pre ++ frB (B.take n)) y).1
  have e : pre ++ frB B = (pre ++ frB (B.take n)) ++ ((putS (B.getD n [])).1 ++ y) := by rw [hy]; simp
  rw [← e] at ht
  have hpl := plB_len pre B B.length
  have hal : (a ++ (t ++ z)).length = a.length + (t.length + z.length) := by simp
  unfold fragR
  rw [if_neg (by simp only; omega)]
  simp only
  rw [show (((n + 1 : Nat) : Int) - 1).toNat = n by omega, plB_at h1, show ((pre.length + (frB (B.take n)).length : Nat) : Int) = ((pre ++ frB (B.take n)).length : Nat) by rw [List.length_append], ht]
  unfold fragT
  simp only
  rw [h3, if_neg (by rintro (h | h | h | h); exact h rfl; omega; omega; omega)]
  simp
end Go.Proofs.Ytapmfoogjkdffaa
