/- data: reading blocks, in plain Lean. No condition. -/
import Derived.Test.YtpnfjfbfgaiolaaDoorKC
namespace Go.Proofs.YtpnfjfbfgaiolaaDoor
open Go Go.RowKit
set_option linter.unusedVariables false

theorem lenF_le {x : List UInt8} (h : x.length ≤ 128) : lenF x ≤ 135 ∧ 3 ≤ lenF x := by unfold lenF; split <;> omega
theorem cutS_at {im : List UInt8} {a : Int} {r : List UInt8 × Nat × Bool} (h : cutS im a = some r) : 0 ≤ a ∧ a ≤ im.length := by
  unfold cutS at h
  split at h
  · cases h
  · omega
theorem skipS_bd (im : List UInt8) (a : Int) : 0 ≤ (skipS im a).1 ∧ (skipS im a).1 ≤ im.length + 135 := by
  unfold skipS
  cases h : cutS im a with
  | none => exact ⟨Int.le_refl _, by show (0 : Int) ≤ _; omega⟩
  | some r =>
    obtain ⟨x, s, st⟩ := r
    have h1 := cutS_at h
    have h2 := lenF_le (cutS_len h).1
    show 0 ≤ a + (lenF x : Nat) ∧ a + (lenF x : Nat) ≤ _
    omega
theorem takeC_bd {r : Option (List UInt8 × Nat × Bool)} (h : ∀ x s st, r = some (x, s, st) → x.length ≤ 128) : (takeC r).2.1 ≤ 135 := by
  unfold takeC
  split
  · exact Nat.zero_le _
  · rename_i x s st
    have h2 := (lenF_le (h x s st rfl)).1
    split
    · exact (by decide : 3 ≤ 135)
    · split
      · exact Nat.zero_le _
      · split
        · exact h2
        · split
          · exact Nat.zero_le _
          · exact h2
theorem takeS_bd (im : List UInt8) (a : Int) : 0 ≤ (takeS im a).2.1 ∧ (takeS im a).2.1 ≤ im.length + 135 := by
  show 0 ≤ (if (takeC (cutS im a)).2.2 = 0 then a + ((takeC (cutS im a)).2.1 : Nat) else 0) ∧ (if (takeC (cutS im a)).2.2 = 0 then a + ((takeC (cutS im a)).2.1 : Nat) else 0) ≤ _
  cases h : cutS im a with
  | none =>
    rw [if_neg (show ¬ (takeC none).2.2 = 0 from by simp [takeC])]; omega
  | some r =>
    have h1 := cutS_at h
    have h2 := takeC_bd (r := some r) (fun x s st e => (cutS_len (by rw [h, e])).1)
    split <;> omega

def blkD (x : List UInt8) : List UInt8 := if x.length = 0 then List.replicate 128 0 else x
def rdGo (im : List UInt8) (off n : Nat) : Nat → Nat → Int → List UInt8 → List UInt8 × Int
  | 0, _, _, out => (out, 0)
  | k + 1, i, a, out => if n ≤ out.length then (out, 0) else
    if i * 128 + 128 ≤ off then (if (skipS im a).2 ≠ 0 then ([], 35) else rdGo im off n k (i + 1) (skipS im a).1 out) else
    if (takeS im a).2.2 ≠ 0 ∨ ((takeS im a).1.length ≠ 0 ∧ (takeS im a).1.length ≠ 128) then ([], 35) else
    rdGo im off n k (i + 1) (takeS im a).2.1 (out ++ ((blkD (takeS im a).1).drop (off - i * 128)).take (n - out.length))
def readD (im : List UInt8) (start size off n : Int) : List UInt8 × Int :=
  if size < 0 ∨ off < 0 ∨ n < 0 ∨ 4096 < size then ([], 1) else if size.toNat / 128 * 128 ≤ off.toNat then ([], 0) else rdGo im off.toNat n.toNat (size.toNat / 128) 0 start []
section
variable {im : List UInt8} {off n k i : Nat} {a : Int} {out : List UInt8}
theorem rdGo_end (h : n ≤ out.length) : rdGo im off n k i a out = (out, 0) := by
  cases k with
  | zero => rfl
  | succ k => unfold rdGo; rw [if_pos h]
theorem rdGo_sbad (h : out.length < n) (h1 : i * 128 + 128 ≤ off) (h2 : (skipS im a).2 ≠ 0) : rdGo im off n (k + 1) i a out = ([], 35) := by
  rw [rdGo, if_neg (by omega), if_pos h1, if_pos h2]
theorem rdGo_skip (h : out.length < n) (h1 : i * 128 + 128 ≤ off) (h2 : ¬ (skipS im a).2 ≠ 0) : rdGo im off n (k + 1) i a out = rdGo im off n k (i + 1) (skipS im a).1 out := by
  rw [rdGo, if_neg (by omega), if_pos h1, if_neg h2]
theorem rdGo_bad (h : out.length < n) (h1 : ¬ i * 128 + 128 ≤ off) (h2 : (takeS im a).2.2 ≠ 0 ∨ ((takeS im a).1.length ≠ 0 ∧ (takeS im a).1.length ≠ 128)) : rdGo im off n (k + 1) i a out = ([], 35) := by
  rw [rdGo, if_neg (by omega), if_neg h1, if_pos h2]
theorem rdGo_take (h : out.length < n) (h1 : ¬ i * 128 + 128 ≤ off) (h2 : ¬ ((takeS im a).2.2 ≠ 0 ∨ ((takeS im a).1.length ≠ 0 ∧ (takeS im a).1.length ≠ 128))) :
    rdGo im off n (k + 1) i a out = rdGo im off n k (i + 1) (takeS im a).2.1 (out ++ ((blkD (takeS im a).1).drop (off - i * 128)).take (n - out.length)) := by
  rw [rdGo, if_neg (by omega), if_neg h1, if_neg h2]
theorem blkD_len {x : List UInt8} (h : ¬ (x.length ≠ 0 ∧ x.length ≠ 128)) : (blkD x).length = 128 := by
  unfold blkD
  split
  · exact List.length_replicate
  · omega
end
theorem readD_bad {im : List UInt8} {start size off n : Int} (h : size < 0 ∨ off < 0 ∨ n < 0 ∨ 4096 < size) : readD im start size off n = ([], 1) := if_pos h
theorem readD_nil {im : List UInt8} {start : Int} {size off n : Nat} (h : size ≤ 4096) (h2 : size / 128 * 128 ≤ off) : readD im start size off n = ([], 0) := by
  unfold readD; rw [if_neg (by omega)]; exact if_pos h2
theorem readD_go {im : List UInt8} {start : Int} {size off n : Nat} (h : size ≤ 4096) (h2 : ¬ size / 128 * 128 ≤ off) : readD im start size off n = rdGo im off n (size / 128) 0 start [] := by
  unfold readD; rw [if_neg (by omega)]; exact if_neg h2
def wkGo (im : List UInt8) (e : Int) : Nat → Int → Int × Int
  | 0, a => (a, 0)
  | k + 1, a => if (skipS im a).2 ≠ 0 ∨ e < (skipS im a).1 then (0, 2) else wkGo im e k (skipS im a).1
def walkD (im : List UInt8) (start size e : Int) : Int × Int := if size < 0 ∨ 4096 < size then (0, 1) else wkGo im e (size.toNat / 128) start
theorem walkD_bad {im : List UInt8} {start size e : Int} (h : size < 0 ∨ 4096 < size) : walkD im start size e = (0, 1) := if_pos h
theorem walkD_go {im : List UInt8} {start e : Int} {size : Nat} (h : size ≤ 4096) : walkD im start size e = wkGo im e (size / 128) start := by unfold walkD; rw [if_neg (by omega)]; rfl
theorem wkGo_bad {im : List UInt8} {e a : Int} {k : Nat} (h : (skipS im a).2 ≠ 0 ∨ e < (skipS im a).1) : wkGo im e (k + 1) a = (0, 2) := by rw [wkGo, if_pos h]
theorem wkGo_on {im : List UInt8} {e a : Int} {k : Nat} (h : ¬ ((skipS im a).2 ≠ 0 ∨ e < (skipS im a).1)) : wkGo im e (k + 1) a = wkGo im e k (skipS im a).1 := by rw [wkGo, if_neg h]
end Go.Proofs.YtpnfjfbfgaiolaaDoor
