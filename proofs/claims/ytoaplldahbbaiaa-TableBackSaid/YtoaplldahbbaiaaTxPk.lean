/- table: attributes that are taken: the plain law. No condition beyond the bounds that each states. -/
import Derived.Test.YtoaplldahbbaiaaTnPk
import Derived.Test.YtoaplldahbbaiaaTpBk
namespace Go.Proofs.Ytoaplldahbbaiaa
open Go Go.RowKit
set_option linter.unusedVariables false

def bdT (z : Int) : Prop := -9223372036854775808 ≤ z ∧ z ≤ 9223372036854775807
def rtS1 (im : List UInt8) (fr to ref : Int) : List UInt8 × Int × Int :=
  if (readS im fr to ref 1).2.2 ≠ 0 then ([], 0, (readS im fr to ref 1).2.2) else readS im fr to (readS im fr to ref 1).2.1 ((readS im fr to ref 1).1.getD 0 0).toNat
def rtTL (im : List UInt8) (fr to : Int) : Nat → Int → Option (List (List UInt8) × Int)
  | 0, ref => some ([], ref)
  | k + 1, ref => if (rtS1 im fr to ref).2.2 ≠ 0 then none else (rtTL im fr to k (rtS1 im fr to ref).2.1).map fun p => ((rtS1 im fr to ref).1 :: p.1, p.2)
def pairsL (l : List (List UInt8)) : List Xa := (List.range (l.length / 2)).map fun i => (l.getD (2 * i) [], l.getD (2 * i + 1) [])
def rtXs (im : List UInt8) (fr to ref : Int) : List Xa × Int :=
  if (readS im fr to ref 1).2.2 ≠ 0 ∨ ((readS im fr to ref 1).1.getD 0 0).toNat = 0 ∨ 8 < ((readS im fr to ref 1).1.getD 0 0).toNat then ([], 2) else
  match rtTL im fr to (2 * ((readS im fr to ref 1).1.getD 0 0).toNat) (readS im fr to ref 1).2.1 with
  | none => ([], 2)
  | some (l, _) => if mayX (pairsL l) then (pairsL l, 0) else ([], 2)
section
variable {im : List UInt8} {fr to : Int}
theorem readS_bd {ref n : Int} (hr : bdT ref) (him : im.length ≤ 1073741824) : bdT (readS im fr to ref n).2.1 := by
  unfold bdT at *
  rcases readS_sum (im := im) (fr := fr) (to := to) ref n with e | e | ⟨_, h2, h3, h4, h5, h6, h7⟩
  · rw [e]; decide
  · rw [e]; decide
  · omega
theorem rtS1_1 {ref : Int} (h : (readS im fr to ref 1).2.2 ≠ 0) : rtS1 im fr to ref = ([], 0, (readS im fr to ref 1).2.2) := by unfold rtS1; rw [if_pos h]
theorem rtS1_2 {ref : Int} (h : (readS im fr to ref 1).2.2 = 0) : rtS1 im fr to ref = readS im fr to (readS im fr to ref 1).2.1 ((readS im fr to ref 1).1.getD 0 0).toNat := by unfold rtS1; rw [if_neg (fun h' => h' h)]
theorem rtS1_bd {ref : Int} (hr : bdT ref) (him : im.length ≤ 1073741824) : bdT (rtS1 im fr to ref).2.1 := by
  by_cases h : (readS im fr to ref 1).2.2 = 0
  · rw [rtS1_2 h]; exact readS_bd (readS_bd hr him) him
  · rw [rtS1_1 h]; exact ⟨by show (_ : Int) ≤ 0; decide, by show (0 : Int) ≤ _; decide⟩
theorem rtS1_len (ref : Int) : (rtS1 im fr to ref).1.length ≤ 255 := by
  by_cases h : (readS im fr to ref 1).2.2 = 0
  · rw [rtS1_2 h]
    have hu := UInt8.toNat_lt ((readS im fr to ref 1).1.getD 0 0)
    rcases readS_sum (im := im) (fr := fr) (to := to) (readS im fr to ref 1).2.1 ((readS im fr to ref 1).1.getD 0 0).toNat with e | e | ⟨_, _, _, _, h5, _⟩
    · rw [e]; exact Nat.zero_le _
    · rw [e]; exact Nat.zero_le _
    · omega
  · rw [rtS1_1 h]; exact Nat.zero_le _
def TxI (im : List UInt8) (fr to r0 : Int) (k : Nat) (ls : List (List UInt8)) (ref : Int) : Prop :=
  ls.length ≤ k ∧ rtTL im fr to k r0 = (rtTL im fr to (k - ls.length) ref).map (fun p => (ls ++ p.1, p.2)) ∧ bdT ref ∧ ∀ x ∈ ls, x.length ≤ 255
variable {r0 ref : Int} {k : Nat} {ls : List (List UInt8)}
theorem rtTL_succ (k : Nat) (ref : Int) : rtTL im fr to (k + 1) ref = if (rtS1 im fr to ref).2.2 ≠ 0 then none else (rtTL im fr to k (rtS1 im fr to ref).2.1).map fun p => ((rtS1 im fr to ref).1 :: p.1, p.2) := rfl
theorem TxI.zero (h : bdT r0) : TxI im fr to r0 k [] r0 := ⟨Nat.zero_le _, by cases rtTL im fr to k r0 <;> simp, h, by simp⟩
theorem TxI.bad (h : TxI im fr to r0 k ls ref) (hl : ls.length < k) (he : (rtS1 im fr to ref).2.2 ≠ 0) : rtTL im fr to k r0 = none := by
  obtain ⟨m, hm⟩ : ∃ m, k - ls.length = m + 1 := ⟨k - ls.length - 1, by omega⟩
  have := h.2.1
  rw [hm] at this
  rw [this, rtTL_succ, if_pos he]; rfl
theorem TxI.next (h : TxI im fr to r0 k ls ref) (hl : ls.length < k) (him : im.length ≤ 1073741824) (he : (rtS1 im fr to ref).2.2 = 0) : TxI im fr to r0 k (ls ++ [(rtS1 im fr to ref).1]) (rtS1 im fr to ref).2.1 := by
  obtain ⟨h1, h2, h3, h4⟩ := h
  obtain ⟨m, hm⟩ : ∃ m, k - ls.length = m + 1 := ⟨k - ls.length - 1, by omega⟩
  refine ⟨by simp; omega, ?_, rtS1_bd h3 him, fun x hx => ?_⟩
  · rw [h2, hm]
    have e : k - (ls ++ [(rtS1 im fr to ref).1]).length = m := by simp; omega
    rw [e, rtTL_succ, if_neg (fun h' => h' he)]
    cases rtTL im fr to m (rtS1 im fr to ref).2.1 <;> simp
  · rcases List.mem_append.1 hx with h | h
    · exact h4 x h
    · rw [List.mem_singleton.1 h]; exact rtS1_len ref
theorem TxI.done (h : TxI im fr to r0 k ls ref) (hl : ¬ ls.length < k) : rtTL im fr to k r0 = some (ls, ref) := by
  have := h.2.1
  rw [show k - ls.length = 0 by omega] at this
  rw [this]
  simp [rtTL]
theorem rtXs_bad (h : (readS im fr to ref 1).2.2 ≠ 0 ∨ ((readS im fr to ref 1).1.getD 0 0).toNat = 0 ∨ 8 < ((readS im fr to ref 1).1.getD 0 0).toNat) : rtXs im fr to ref = ([], 2) := by unfold rtXs; rw [if_pos h]
theorem rtXs_none (h : ¬ ((readS im fr to ref 1).2.2 ≠ 0 ∨ ((readS im fr to ref 1).1.getD 0 0).toNat = 0 ∨ 8 < ((readS im fr to ref 1).1.getD 0 0).toNat)) (hn : rtTL im fr to (2 * ((readS im fr to ref 1).1.getD 0 0).toNat) (readS im fr to ref 1).2.1 = none) : rtXs im fr to ref = ([], 2) := by
  unfold rtXs; rw [if_neg h, hn]
theorem rtXs_may (h : ¬ ((readS im fr to ref 1).2.2 ≠ 0 ∨ ((readS im fr to ref 1).1.getD 0 0).toNat = 0 ∨ 8 < ((readS im fr to ref 1).1.getD 0 0).toNat)) {l : List (List UInt8)} {r : Int} (hn : rtTL im fr to (2 * ((readS im fr to ref 1).1.getD 0 0).toNat) (readS im fr to ref 1).2.1 = some (l, r)) (hm : mayX (pairsL l)) : rtXs im fr to ref = (pairsL l, 0) := by
  unfold rtXs; rw [if_neg h, hn]; show (if _ then _ else _) = _; rw [if_pos hm]
theorem rtXs_not (h : ¬ ((readS im fr to ref 1).2.2 ≠ 0 ∨ ((readS im fr to ref 1).1.getD 0 0).toNat = 0 ∨ 8 < ((readS im fr to ref 1).1.getD 0 0).toNat)) {l : List (List UInt8)} {r : Int} (hn : rtTL im fr to (2 * ((readS im fr to ref 1).1.getD 0 0).toNat) (readS im fr to ref 1).2.1 = some (l, r)) (hm : ¬ mayX (pairsL l)) : rtXs im fr to ref = ([], 2) := by
  unfold rtXs; rw [if_neg h, hn]; show (if _ then _ else _) = _; rw [if_neg hm]
end
theorem rtTL_len {im : List UInt8} {fr to : Int} : ∀ (k : Nat) (ref : Int) (l : List (List UInt8)) (r : Int), rtTL im fr to k ref = some (l, r) → l.length = k
  | 0, _, _, _, h => by cases h; rfl
  | k + 1, ref, l, r, h => by
    rw [rtTL_succ] at h
    split at h
    · cases h
    · cases hh : rtTL im fr to k (rtS1 im fr to ref).2.1 with
      | none => rw [hh] at h; cases h
      | some p => rw [hh] at h; cases h; have := rtTL_len k _ p.1 p.2 hh; simp [this]
theorem pairsL_len (l : List (List UInt8)) : (pairsL l).length = l.length / 2 := by simp [pairsL]
theorem pairsL_at {l : List (List UInt8)} {i : Nat} (h : i < l.length / 2) : (pairsL l)[i]? = some (l.getD (2 * i) [], l.getD (2 * i + 1) []) := by simp [pairsL, h]
theorem pairsL_snoc {l : List (List UInt8)} {i : Nat} (h : l.length = 2 * i) (s v : List UInt8) : pairsL (l ++ [s] ++ [v]) = pairsL l ++ [(s, v)] := by
  have h1 : (l ++ [s] ++ [v]).length / 2 = i + 1 := by simp; omega
  have h2 : l.length / 2 = i := by omega
  unfold pairsL
  rw [h1, h2, List.range_succ, List.map_append]
  congr 1
  · apply List.map_congr_left
    intro j hj
    have := List.mem_range.1 hj
    simp only [List.getD]
    rw [List.append_assoc, List.getElem?_append_left (by omega), List.getElem?_append_left (by omega)]
  · have e : l ++ [s] ++ [v] = l ++ [s, v] := by simp
    have e1 : (l ++ [s, v])[2 * i]? = some s := by rw [List.getElem?_append_right (by omega), show 2 * i - l.length = 0 by omega]; rfl
    have e2 : (l ++ [s, v])[2 * i + 1]? = some v := by rw [List.getElem?_append_right (by omega), show 2 * i + 1 - l.length = 1 by omega]; rfl
    simp only [List.map_cons, List.map_nil, List.getD, e, e1, e2]; rfl
end Go.Proofs.Ytoaplldahbbaiaa
