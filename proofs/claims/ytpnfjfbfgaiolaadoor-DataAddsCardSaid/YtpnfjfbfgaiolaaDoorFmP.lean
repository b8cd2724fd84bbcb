/- frame: the plain law. No condition. -/
import Derived.Test.YtpnfjfbfgaiolaaDoorCc
import Derived.Test.YtpnfjfbfgaiolaaDoorLzQ
import Derived.Test.YtpnfjfbfgaiolaaDoorCr
namespace Go.Proofs.YtpnfjfbfgaiolaaDoor
open Go Go.RowKit
set_option linter.unusedVariables false

def hdN (n : Nat) : List Nat := [n % 256, n / 256 % 256, 255 ^^^ ((n % 256) ^^^ (n / 256 % 256))]
def hdB (n : Nat) : List UInt8 := (hdN n).map UInt8.ofNat
theorem hdB_len (n : Nat) : (hdB n).length = 3 := rfl
theorem hdN_lt {n x : Nat} (h : x ∈ hdN n) : x < 256 := by
  simp only [hdN, List.mem_cons, List.not_mem_nil, or_false] at h
  rcases h with rfl | rfl | rfl
  · omega
  · omega
  · exact xor_lt8 (by decide) (xor_lt8 (by omega) (by omega))
def frS (x : List UInt8) (mark : Nat) : List UInt8 := hdB (x.length + mark) ++ (if x.length = 0 then [] else le (sumS x : Nat) 4 ++ x)
def putS (b : List UInt8) : List UInt8 × Int :=
  if 128 < b.length then ([], 3) else if b.length = 0 then (frS [] 0, 0) else if (pkS b).length < b.length then (frS (pkS b) 0, 0) else (frS b 32768, 0)
def cutP (r : List UInt8) : Option (List UInt8 × Nat × Bool) :=
  if r.length < 3 then none else
  if r.take 3 ≠ hdB ((r.getD 0 0).toNat + 256 * (r.getD 1 0).toNat) then none else
  if 128 < ((r.getD 0 0).toNat + 256 * (r.getD 1 0).toNat) % 32768 ∨ (((r.getD 0 0).toNat + 256 * (r.getD 1 0).toNat) % 32768 = 0 ∧ 32768 ≤ (r.getD 0 0).toNat + 256 * (r.getD 1 0).toNat) then none else
  if ((r.getD 0 0).toNat + 256 * (r.getD 1 0).toNat) % 32768 = 0 then some ([], 0, false) else
  if r.length < 7 + ((r.getD 0 0).toNat + 256 * (r.getD 1 0).toNat) % 32768 then none else
  some ((r.drop 7).take (((r.getD 0 0).toNat + 256 * (r.getD 1 0).toNat) % 32768), valB ((r.drop 3).take 4), decide (32768 ≤ (r.getD 0 0).toNat + 256 * (r.getD 1 0).toNat))
def cutS (im : List UInt8) (a : Int) : Option (List UInt8 × Nat × Bool) := if a < 0 ∨ (im.length : Int) < a then none else cutP (im.drop a.toNat)
def lenF (x : List UInt8) : Nat := if x.length = 0 then 3 else 7 + x.length
def takeC (c : Option (List UInt8 × Nat × Bool)) : List UInt8 × Nat × Int := match c with
  | none => ([], 0, 2)
  | some (x, s, st) => if x.length = 0 then ([], 3, 0) else if sumS x ≠ s then ([], 0, 2) else if st then (x, lenF x, 0) else
    if (up 128 x []).2 ≠ 0 ∨ (up 128 x []).1.length = 0 then ([], 0, 2) else ((up 128 x []).1, lenF x, 0)
/-- a frame that is taken: its bytes, the place behind it, the error -/
def takeS (im : List UInt8) (a : Int) : List UInt8 × Int × Int := ((takeC (cutS im a)).1, if (takeC (cutS im a)).2.2 = 0 then a + (takeC (cutS im a)).2.1 else 0, (takeC (cutS im a)).2.2)
def skipS (im : List UInt8) (a : Int) : Int × Int := match cutS im a with
  | none => (0, 2)
  | some (x, _, _) => (a + lenF x, 0)

theorem pkS_ne {b : List UInt8} (h : 0 < b.length) : 0 < (pkS b).length := by
  apply Classical.byContradiction
  intro hn
  have e : pkS b = [] := List.eq_nil_of_length_eq_zero (by omega)
  have := unpack_pack b
  rw [e] at this
  unfold upS at this
  rw [if_neg (by omega), up_nil] at this
  simp only [Prod.mk.injEq, and_true] at this
  rw [← this] at h; cases h
theorem frS_len (x : List UInt8) (mark : Nat) : (frS x mark).length = lenF x := by
  unfold frS lenF
  rw [List.length_append, hdB_len]
  split
  · rfl
  · rw [List.length_append, le_length]; omega
theorem hd_get0 (n : Nat) : ((hdB n).getD 0 0).toNat = n % 256 := by simp [hdB, hdN]
theorem hd_get1 (n : Nat) : ((hdB n).getD 1 0).toNat = n / 256 % 256 := by simp [hdB, hdN]
theorem cut_frame (x rest : List UInt8) (mark : Nat) (hx : x.length ≤ 128) (hm : mark = 0 ∨ mark = 32768 ∧ 0 < x.length) : cutP (frS x mark ++ rest) = some (x, if x.length = 0 then 0 else sumS x, decide (mark = 32768)) := by
  have hlen := frS_len x mark
  have e0 : ((frS x mark ++ rest).getD 0 0).toNat + 256 * ((frS x mark ++ rest).getD 1 0).toNat = x.length + mark := by
    have h0 : (frS x mark ++ rest).getD 0 0 = (hdB (x.length + mark)).getD 0 0 := rfl
    have h1 : (frS x mark ++ rest).getD 1 0 = (hdB (x.length + mark)).getD 1 0 := rfl
    rw [h0, h1, hd_get0, hd_get1]; omega
  have e3 : (frS x mark ++ rest).take 3 = hdB (x.length + mark) := rfl
  unfold cutP
  rw [e0, e3, if_neg (by rw [List.length_append, hlen]; unfold lenF; split <;> omega), if_neg (fun h => h rfl)]
  have hmod : (x.length + mark) % 32768 = x.length := by omega
  rw [hmod]
  by_cases h0 : x.length = 0
  · have hx0 : x = [] := List.eq_nil_of_length_eq_zero h0
    rw [if_neg (by omega), if_pos h0, if_pos h0, hx0]
    have : ¬ mark = 32768 := by omega
    rw [decide_eq_false this]
  · rw [if_neg (by omega), if_neg h0, if_neg h0, if_neg (by rw [List.length_append, hlen]; unfold lenF; rw [if_neg h0]; omega)]
    have hf : frS x mark ++ rest = hdB (x.length + mark) ++ (le (sumS x : Nat) 4 ++ (x ++ rest)) := by unfold frS; rw [if_neg h0]; simp
    have d3 : (frS x mark ++ rest).drop 3 = le (sumS x : Nat) 4 ++ (x ++ rest) := by rw [hf, List.drop_left' (hdB_len _)]
    have d7 : (frS x mark ++ rest).drop 7 = x ++ rest := by rw [show 7 = 3 + 4 from rfl, ← List.drop_drop, d3, List.drop_left' (le_length _ _)]
    rw [d3, d7, List.take_left' rfl, List.take_left' (le_length _ _)]
    have hs := sumS_lt x
    have hv := valB_le 4 (sumS x : Nat) (by omega) (by omega)
    rw [show valB (le ((sumS x : Nat) : Int) 4) = sumS x by omega]
    have hd : decide (32768 ≤ x.length + mark) = decide (mark = 32768) := by
      by_cases hm2 : mark = 32768
      · rw [decide_eq_true hm2, decide_eq_true (by omega)]
      · rw [decide_eq_false hm2, decide_eq_false (by omega)]
    rw [hd]
theorem take_frame {b : List UInt8} (h : b.length ≤ 128) (rest : List UInt8) : takeC (cutP ((putS b).1 ++ rest)) = (b, (putS b).1.length, 0) ∧ (putS b).2 = 0 ∧ (putS b).1.length = lenF (match cutP ((putS b).1 ++ rest) with | none => [] | some (x, _, _) => x) := by
  unfold putS
  rw [if_neg (by omega)]
  by_cases h0 : b.length = 0
  · have hb : b = [] := List.eq_nil_of_length_eq_zero h0
    rw [if_pos h0]
    simp only
    rw [cut_frame [] rest 0 (by simp) (.inl rfl), hb]
    exact ⟨rfl, trivial, rfl⟩
  · rw [if_neg h0]
    by_cases hp : (pkS b).length < b.length
    · rw [if_pos hp]
      have hp0 := pkS_ne (b := b) (by omega)
      simp only
      rw [cut_frame (pkS b) rest 0 (by omega) (.inl rfl), frS_len]
      have hu := (En.pkS b).yes [] [] 128 (by simp; omega)
      simp only [List.nil_append, List.append_nil, up_nil] at hu
      refine ⟨?_, trivial, rfl⟩
      unfold takeC
      simp only
      rw [if_neg (by omega), if_neg (show ¬ (pkS b).length = 0 by omega), if_neg (fun hh => hh rfl), if_neg (by simp), hu, if_neg (by rintro (hh | hh); exact hh rfl; exact h0 hh)]
    · rw [if_neg hp]
      simp only
      rw [cut_frame b rest 32768 h (.inr ⟨rfl, by omega⟩), frS_len]
      refine ⟨?_, trivial, rfl⟩
      unfold takeC
      simp only
      rw [if_neg h0, if_neg h0, if_neg (fun hh => hh rfl), if_pos (by simp)]
theorem putS_len {b : List UInt8} (h : b.length ≤ 128) : (putS b).1.length ≤ b.length + 7 ∧ 3 ≤ (putS b).1.length := by
  unfold putS
  rw [if_neg (by omega)]
  split
  · simp only [frS_len, lenF]; simp
  · split
    · simp only [frS_len, lenF]; split <;> omega
    · simp only [frS_len, lenF]; split <;> omega
end Go.Proofs.YtpnfjfbfgaiolaaDoor
