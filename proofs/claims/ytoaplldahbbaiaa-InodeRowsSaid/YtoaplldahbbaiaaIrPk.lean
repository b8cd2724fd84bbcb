/- inode: what is read at a ref: the plain law. No condition beyond the bounds that each states. -/
import Derived.Test.YtoaplldahbbaiaaMtQk
import Derived.Test.YtoaplldahbbaiaaKF
namespace Go.Proofs.Ytoaplldahbbaiaa
open Go Go.RowKit
set_option linter.unusedVariables false

def longI (h : List UInt8) : Int := if ((h.getD 0 0).toNat : Int) = 2 then 22 else if ((h.getD 0 0).toNat : Int) = 1 then 21 else if ((h.getD 0 0).toNat : Int) = 3 then 14 + (h.getD 13 0).toNat else 13
def longR (h : List UInt8) : Int := if ((h.getD 0 0).toNat : Int) = 2 then 22 else if ((h.getD 0 0).toNat : Int) = 1 then 21 else if ((h.getD 0 0).toNat : Int) = 3 then 14 + (h.getD 13 0).toNat else 0
theorem longI_b (h : List UInt8) : 13 ≤ longI h ∧ longI h ≤ 269 := by
  have h1 : (h.getD 13 0).toNat < 256 := UInt8.toNat_lt _
  unfold longI
  split
  · omega
  · split
    · omega
    · split <;> omega
theorem longR_b (h : List UInt8) : 0 ≤ longR h ∧ longR h ≤ 269 := by
  have h1 : (h.getD 13 0).toNat < 256 := UInt8.toNat_lt _
  unfold longR
  split
  · omega
  · split
    · omega
    · split <;> omega
def sumF (L : List Fd) : Int := (L.map (fun x => x.b)).sum
theorem sumF_snoc (L : List Fd) (x : Fd) : sumF (L ++ [x]) = sumF L + x.b := by unfold sumF; simp
theorem sumF_fld (k : Int) : sumF (fldL k) = if k = 2 then 9 else if k = 1 then 8 else 0 := by
  unfold fldL
  split
  · decide
  · split <;> decide
theorem longI_sum (h : List UInt8) : longI h = 13 + sumF (fldL ((h.getD 0 0).toNat : Int)) + (if ((h.getD 0 0).toNat : Int) = 3 then 1 + ((h.getD 13 0).toNat : Int) else 0) := by
  rw [sumF_fld]
  unfold longI
  split
  · omega
  · split
    · omega
    · split <;> omega
theorem sumF_nn (L : List Fd) (h : ∀ x ∈ L, 0 ≤ x.b ∧ x.b ≤ 4) : 0 ≤ sumF L ∧ sumF L ≤ 4 * L.length := by
  induction L with
  | nil => exact ⟨Int.le_refl 0, Int.le_refl 0⟩
  | cons x r ih =>
    have h1 := h x (by simp)
    have h2 := ih (fun y hy => h y (by simp [hy]))
    have e : sumF (x :: r) = x.b + sumF r := by unfold sumF; simp
    rw [e, List.length_cons]; omega

def inoR (im : List UInt8) (fr to ref : Int) : ((Nat → Int) × List UInt8) × Int × Int :=
  if (readS im fr to ref 14).2.2 ≠ 0 then ((fun _ => 0, []), 0, 2) else
  if (readS im fr to ref (longI (readS im fr to ref 14).1)).2.2 ≠ 0 then ((fun _ => 0, []), 0, 2) else
  if TkOk (readS im fr to ref (longI (readS im fr to ref 14).1)).1 then ((gFn (readS im fr to ref (longI (readS im fr to ref 14).1)).1, gT (readS im fr to ref (longI (readS im fr to ref 14).1)).1), (readS im fr to ref (longI (readS im fr to ref 14).1)).2.1, 0)
  else ((fun _ => 0, []), 0, 2)
section
variable {im : List UInt8} {fr to ref : Int}
theorem inoR_1 (h : (readS im fr to ref 14).2.2 ≠ 0) : inoR im fr to ref = ((fun _ => 0, []), 0, 2) := by unfold inoR; rw [if_pos h]
theorem inoR_2 (h : (readS im fr to ref 14).2.2 = 0) (h2 : (readS im fr to ref (longI (readS im fr to ref 14).1)).2.2 ≠ 0) : inoR im fr to ref = ((fun _ => 0, []), 0, 2) := by unfold inoR; rw [if_neg (fun h' => h' h), if_pos h2]
theorem inoR_3 (h : (readS im fr to ref 14).2.2 = 0) (h2 : (readS im fr to ref (longI (readS im fr to ref 14).1)).2.2 = 0) (h3 : ¬ TkOk (readS im fr to ref (longI (readS im fr to ref 14).1)).1) : inoR im fr to ref = ((fun _ => 0, []), 0, 2) := by
  unfold inoR; rw [if_neg (fun h' => h' h), if_neg (fun h' => h' h2), if_neg h3]
theorem inoR_4 (h : (readS im fr to ref 14).2.2 = 0) (h2 : (readS im fr to ref (longI (readS im fr to ref 14).1)).2.2 = 0) (h3 : TkOk (readS im fr to ref (longI (readS im fr to ref 14).1)).1) :
    inoR im fr to ref = ((gFn (readS im fr to ref (longI (readS im fr to ref 14).1)).1, gT (readS im fr to ref (longI (readS im fr to ref 14).1)).1), (readS im fr to ref (longI (readS im fr to ref 14).1)).2.1, 0) := by
  unfold inoR; rw [if_neg (fun h' => h' h), if_neg (fun h' => h' h2), if_pos h3]
theorem gK_head {b : List UInt8} (h : 0 < b.length) : gK b = (b.getD 0 0).toNat := by
  cases b with
  | nil => cases h
  | cons c r =>
    unfold gK; rw [(g_good (n := 1) (s := (0, c :: r)) (by decide) (by decide) rfl (by simp; omega)).2]; simp [valB]
theorem TkOk.kind {b : List UInt8} (h : TkOk b) : gK b = 1 ∨ gK b = 2 ∨ gK b = 3 := by
  have := may_kind h.2
  rwa [gFn_0] at this
/-- the other kinds: none is read, however long -/
theorem no_kind {h : List UInt8} (ho : longR h ≠ longI h) : longR h = 0 ∧ longI h = 13 ∧ ¬ (((h.getD 0 0).toNat : Int) = 1 ∨ ((h.getD 0 0).toNat : Int) = 2 ∨ ((h.getD 0 0).toNat : Int) = 3) := by
  unfold longR longI at *
  by_cases h2 : ((h.getD 0 0).toNat : Int) = 2
  · rw [if_pos h2, if_pos h2] at ho; exact absurd rfl ho
  · rw [if_neg h2, if_neg h2] at ho ⊢
    by_cases h1 : ((h.getD 0 0).toNat : Int) = 1
    · rw [if_pos h1, if_pos h1] at ho; exact absurd rfl ho
    · rw [if_neg h1, if_neg h1] at ho ⊢
      by_cases h3 : ((h.getD 0 0).toNat : Int) = 3
      · rw [if_pos h3, if_pos h3] at ho; exact absurd rfl ho
      · rw [if_neg h3, if_neg h3]; exact ⟨rfl, rfl, fun h => h.elim h1 (fun h => h.elim h2 h3)⟩
theorem noTk_nil : ¬ TkOk ([] : List UInt8) := fun h => by have := h.kind; rw [show gK ([] : List UInt8) = 0 from rfl] at this; omega
theorem inoR_other (h : (readS im fr to ref 14).2.2 = 0) (ho : longR (readS im fr to ref 14).1 ≠ longI (readS im fr to ref 14).1) : inoR im fr to ref = ((fun _ => 0, []), 0, 2) := by
  obtain ⟨e1, e2, e3⟩ := no_kind ho
  by_cases h2 : (readS im fr to ref (longI (readS im fr to ref 14).1)).2.2 = 0
  · refine inoR_3 h h2 (fun hT => ?_)
    obtain ⟨_, _, _, hl, _⟩ := readS_ok h2
    have hs := readS_same h2 h (by omega) (by decide)
    have hk := hT.kind
    rw [gK_head (by omega), hs] at hk
    exact e3 hk
  · exact inoR_2 h h2
end
end Go.Proofs.Ytoaplldahbbaiaa
