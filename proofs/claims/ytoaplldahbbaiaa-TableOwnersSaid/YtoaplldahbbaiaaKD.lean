/- meta: the plain law: what a writer has, what a reader reads. No condition. -/
import Derived.Test.YtoaplldahbbaiaaKC
import Derived.Test.YtoaplldahbbaiaaGck
import Derived.Test.YtoaplldahbbaiaaMpk
import Derived.Test.YtoaplldahbbaiaaSkk
namespace Go.Proofs.Ytoaplldahbbaiaa
open Go Go.RowKit
set_option linter.unusedVariables false

/-! ### the writer -/
def cutW (f t : List UInt8) : List UInt8 × List UInt8 := if 128 ≤ t.length then cutW (f ++ (putS (t.take 128)).1) (t.drop 128) else (f, t)
termination_by t.length
decreasing_by rw [List.length_drop]; omega
def doneW (f t : List UInt8) : List UInt8 := if t.length = 0 then f else f ++ (putS t).1
theorem cutW_small {f t : List UInt8} (h : t.length < 128) : cutW f t = (f, t) := by unfold cutW; rw [if_neg (by omega)]
theorem cutW_big {f t : List UInt8} (h : 128 ≤ t.length) : cutW f t = cutW (f ++ (putS (t.take 128)).1) (t.drop 128) := by rw [cutW, if_pos h]
theorem cutW_rest (f t : List UInt8) : (cutW f t).2.length < 128 := by
  by_cases h : 128 ≤ t.length
  · rw [cutW_big h]; exact cutW_rest _ _
  · rw [cutW_small (by omega)]; show t.length < 128; omega
termination_by t.length
decreasing_by rw [List.length_drop]; omega
theorem cutW_app (f t b : List UInt8) : cutW f (t ++ b) = cutW (cutW f t).1 ((cutW f t).2 ++ b) := by
  by_cases h : 128 ≤ t.length
  · rw [cutW_big h, cutW_big (t := t ++ b) (by rw [List.length_append]; omega), List.take_append_of_le_length h, List.drop_append_of_le_length h]
    exact cutW_app _ _ _
  · rw [cutW_small (t := t) (by omega)]
termination_by t.length
decreasing_by rw [List.length_drop]; omega
theorem take_len128 {t : List UInt8} (h : 128 ≤ t.length) : (t.take 128).length = 128 := by rw [List.length_take]; omega
theorem cutW_len (f t : List UInt8) : (cutW f t).1.length + 2 * (cutW f t).2.length ≤ f.length + 2 * t.length := by
  by_cases h : 128 ≤ t.length
  · have h1 := cutW_len (f ++ (putS (t.take 128)).1) (t.drop 128)
    have h2 := putS_len (b := t.take 128) (by rw [take_len128 h]; omega)
    rw [take_len128 h] at h2
    rw [List.length_append, List.length_drop] at h1
    rw [cutW_big h]; omega
  · rw [cutW_small (by omega)]; exact Nat.le_refl _
termination_by t.length
decreasing_by rw [List.length_drop]; omega
theorem cutW_full {f t : List UInt8} (h : t.length = 128) : cutW f t = (f ++ (putS t).1, []) := by
  rw [cutW_big (by omega), List.take_of_length_le (by omega), List.drop_of_length_le (by omega), cutW_small (by simp)]

/-! ### frames of whole chunks -/
def chW (T : List UInt8) (q : Nat) : List UInt8 := (T.drop (128 * q)).take 128
def frW (T : List UInt8) : Nat → List UInt8
  | 0 => []
  | q + 1 => frW T q ++ (putS (chW T q)).1
def nF (T : List UInt8) : Nat := (T.length + 127) / 128
def refT (T : List UInt8) (o : Nat) : Nat := 256 * (frW T (o / 128)).length + o % 128
theorem chW_len (T : List UInt8) (q : Nat) : (chW T q).length = min 128 (T.length - 128 * q) := by unfold chW; rw [List.length_take, List.length_drop]
theorem chW_le (T : List UInt8) (q : Nat) : (chW T q).length ≤ 128 := by rw [chW_len]; omega
theorem frW_pre (T : List UInt8) (q : Nat) : ∀ k, ∃ z, frW T (q + k) = frW T q ++ z
  | 0 => ⟨[], by simp⟩
  | k + 1 => by
    obtain ⟨z, hz⟩ := frW_pre T q k
    exact ⟨z ++ (putS (chW T (q + k))).1, by rw [← Nat.add_assoc]; show frW T (q + k) ++ _ = _; rw [hz, List.append_assoc]⟩
theorem frW_split {T : List UInt8} {q n : Nat} (h : q < n) : ∃ z, frW T n = frW T q ++ ((putS (chW T q)).1 ++ z) := by
  obtain ⟨z, hz⟩ := frW_pre T (q + 1) (n - (q + 1))
  rw [show q + 1 + (n - (q + 1)) = n by omega] at hz
  exact ⟨z, by rw [hz]; show (frW T q ++ _) ++ z = _; rw [List.append_assoc]⟩
theorem frW_mono {T : List UInt8} {q n : Nat} (h : q ≤ n) : (frW T q).length ≤ (frW T n).length := by
  obtain ⟨z, hz⟩ := frW_pre T q (n - q)
  rw [show q + (n - q) = n by omega] at hz
  rw [hz, List.length_append]; omega
theorem frW_le (T : List UInt8) : ∀ q, (frW T q).length ≤ 135 * q
  | 0 => by simp [frW]
  | q + 1 => by
    have := frW_le T q
    have h1 := putS_len (chW_le T q)
    have h2 := chW_le T q
    show (frW T q ++ _).length ≤ _
    rw [List.length_append]; omega
theorem frW_lt {T : List UInt8} (q : Nat) : (frW T q).length < (frW T (q + 1)).length := by
  have h1 := putS_len (chW_le T q)
  show _ < (frW T q ++ _).length
  rw [List.length_append]; omega
theorem chW_take {T : List UInt8} {o q : Nat} (h : 128 * q + 128 ≤ o) : chW (T.take o) q = chW T q := by
  unfold chW
  rw [List.drop_take, List.take_take, Nat.min_eq_left (by omega)]
theorem frW_take {T : List UInt8} {o : Nat} : ∀ q, 128 * q ≤ o → frW (T.take o) q = frW T q
  | 0, _ => rfl
  | q + 1, h => by
    show frW (T.take o) q ++ _ = frW T q ++ _
    rw [frW_take q (by omega), chW_take (by omega)]
theorem cutW_frW (T : List UInt8) (q : Nat) (h : 128 * q ≤ T.length) : cutW (frW T q) (T.drop (128 * q)) = (frW T (T.length / 128), T.drop (128 * (T.length / 128))) := by
  by_cases h1 : 128 ≤ (T.drop (128 * q)).length
  · have h2 := h1
    rw [List.length_drop] at h2
    rw [cutW_big h1, List.drop_drop]
    exact cutW_frW T (q + 1) (by omega)
  · rw [cutW_small (by omega)]
    rw [List.length_drop] at h1
    rw [show T.length / 128 = q by omega]
termination_by T.length - 128 * q
decreasing_by rw [List.length_drop] at h1; omega
theorem cutW_all (T : List UInt8) : cutW [] T = (frW T (T.length / 128), T.drop (128 * (T.length / 128))) := cutW_frW T 0 (by omega)
theorem doneW_all (T : List UInt8) : doneW (cutW [] T).1 (cutW [] T).2 = frW T (nF T) := by
  rw [cutW_all]
  unfold doneW nF
  simp only [List.length_drop]
  by_cases h : T.length - 128 * (T.length / 128) = 0
  · rw [if_pos h, show (T.length + 127) / 128 = T.length / 128 by omega]
  · rw [if_neg h, show (T.length + 127) / 128 = T.length / 128 + 1 by omega]
    show _ = frW T _ ++ _
    unfold chW
    rw [List.take_of_length_le (by rw [List.length_drop]; omega)]
theorem refT_all (T : List UInt8) : refT T T.length = 256 * (cutW [] T).1.length + (cutW [] T).2.length := by
  rw [cutW_all]
  unfold refT
  simp only [List.length_drop]; omega
theorem refT_take {T : List UInt8} {o : Nat} (h : o ≤ T.length) : refT T o = refT (T.take o) (T.take o).length := by
  unfold refT
  rw [List.length_take, Nat.min_eq_left h, frW_take _ (by omega)]

theorem refT_b {T : List UInt8} {o : Nat} (h : o ≤ 1099511627776) : refT T o ≤ 1152921504606846976 := by
  have := frW_le T (o / 128)
  unfold refT
  omega

/-! ### the reader -/
def mayS (im : List UInt8) (fr to : Int) : Bool := decide (0 ≤ fr) && decide (fr ≤ to) && decide (to ≤ im.length)
def holdsS (im : List UInt8) (fr to at_ : Int) : Option (List UInt8 × Int) :=
  if to - fr < at_ then none else
  if (takeS im (fr + at_)).2.2 ≠ 0 ∨ to < (takeS im (fr + at_)).2.1 ∨ (takeS im (fr + at_)).1.length = 0 then none else
  some ((takeS im (fr + at_)).1, (takeS im (fr + at_)).2.1 - fr)
def rdL (im : List UInt8) (fr to : Int) (n : Nat) (at_ : Int) (i : Nat) (out : List UInt8) : List UInt8 × Int × Int :=
  if out.length < n then
    match holdsS im fr to at_ with
    | none => ([], 0, 2)
    | some (b, nx) => if b.length ≤ i then ([], 0, 2) else
      if i + ((b.drop i).take (n - out.length)).length = 128 then rdL im fr to n nx 0 (out ++ (b.drop i).take (n - out.length)) else
      if (out ++ (b.drop i).take (n - out.length)).length < n then ([], 0, 2) else
      rdL im fr to n at_ (i + ((b.drop i).take (n - out.length)).length) (out ++ (b.drop i).take (n - out.length))
  else (out, 256 * at_ + i, 0)
termination_by n - out.length
decreasing_by
  all_goals (rw [List.length_append, List.length_take, List.length_drop]; omega)
def readS (im : List UInt8) (fr to ref n : Int) : List UInt8 × Int × Int :=
  if ref < 0 ∨ n < 0 then ([], 0, 1) else if mayS im fr to = false then ([], 0, 2) else rdL im fr to n.toNat (ref / 256) (ref % 256).toNat []
def nextS (im : List UInt8) (fr to ref : Int) : Int × Int :=
  if ref < 0 then (0, 1) else if mayS im fr to = false ∨ to - fr < ref / 256 then (0, 2) else
  if (skipS im (fr + ref / 256)).2 ≠ 0 ∨ to < (skipS im (fr + ref / 256)).1 then (0, 2) else (256 * ((skipS im (fr + ref / 256)).1 - fr), 0)

section
variable {im : List UInt8} {fr to : Int} {n : Nat} {at_ : Int} {i : Nat} {out b : List UInt8} {nx : Int}
theorem rdL_end (h : ¬ out.length < n) : rdL im fr to n at_ i out = (out, 256 * at_ + i, 0) := by unfold rdL; rw [if_neg h]
theorem rdL_none (h : out.length < n) (hh : holdsS im fr to at_ = none) : rdL im fr to n at_ i out = ([], 0, 2) := by
  unfold rdL; rw [if_pos h, hh]
theorem rdL_out (h : out.length < n) (hh : holdsS im fr to at_ = some (b, nx)) (hi : b.length ≤ i) : rdL im fr to n at_ i out = ([], 0, 2) := by
  unfold rdL; rw [if_pos h, hh]; simp only; rw [if_pos hi]
theorem rdL_next (h : out.length < n) (hh : holdsS im fr to at_ = some (b, nx)) (hi : ¬ b.length ≤ i) (h1 : i + ((b.drop i).take (n - out.length)).length = 128) :
    rdL im fr to n at_ i out = rdL im fr to n nx 0 (out ++ (b.drop i).take (n - out.length)) := by
  rw [rdL, if_pos h, hh]; simp only; rw [if_neg hi, if_pos h1]
theorem rdL_bad (h : out.length < n) (hh : holdsS im fr to at_ = some (b, nx)) (hi : ¬ b.length ≤ i) (h1 : ¬ i + ((b.drop i).take (n - out.length)).length = 128)
    (h2 : (out ++ (b.drop i).take (n - out.length)).length < n) : rdL im fr to n at_ i out = ([], 0, 2) := by
  rw [rdL, if_pos h, hh]; simp only; rw [if_neg hi, if_neg h1, if_pos h2]
theorem rdL_on (h : out.length < n) (hh : holdsS im fr to at_ = some (b, nx)) (hi : ¬ b.length ≤ i) (h1 : ¬ i + ((b.drop i).take (n - out.length)).length = 128)
    (h2 : ¬ (out ++ (b.drop i).take (n - out.length)).length < n) : rdL im fr to n at_ i out = rdL im fr to n at_ (i + ((b.drop i).take (n - out.length)).length) (out ++ (b.drop i).take (n - out.length)) := by
  rw [rdL, if_pos h, hh]; simp only; rw [if_neg hi, if_neg h1, if_neg h2]
theorem takeS_ok {a : Int} (h : (takeS im a).2.2 = 0) : a + 3 ≤ (takeS im a).2.1 := by
  have e : (takeS im a).2.1 = if (takeC (cutS im a)).2.2 = 0 then a + (takeC (cutS im a)).2.1 else 0 := rfl
  have e2 : (takeC (cutS im a)).2.2 = 0 := h
  rw [e, if_pos e2]
  have : 3 ≤ (takeC (cutS im a)).2.1 := by
    unfold takeC at e2 ⊢
    split
    · rename_i hn; rw [hn] at e2; simp at e2
    · rename_i x s st hn
      rw [hn] at e2
      simp only at e2
      by_cases h0 : x.length = 0
      · rw [if_pos h0]; exact Nat.le_refl _
      · rw [if_neg h0] at e2 ⊢
        by_cases h1 : sumS x ≠ s
        · rw [if_pos h1] at e2; simp at e2
        · rw [if_neg h1] at e2 ⊢
          have hl : 3 ≤ lenF x := by unfold lenF; rw [if_neg h0]; omega
          split
          · exact hl
          · rename_i hst
            rw [if_neg hst] at e2
            split
            · rename_i hb; rw [if_pos hb] at e2; simp at e2
            · exact hl
  omega
theorem holdsS_some (h : holdsS im fr to at_ = some (b, nx)) : at_ ≤ to - fr ∧ (takeS im (fr + at_)).2.2 = 0 ∧ b = (takeS im (fr + at_)).1 ∧ nx = (takeS im (fr + at_)).2.1 - fr ∧ nx ≤ to - fr ∧ at_ + 3 ≤ nx ∧ 0 < b.length ∧ b.length ≤ 128 := by
  unfold holdsS at h
  split at h
  · cases h
  · split at h
    · cases h
    · rename_i h1 h2
      have h3 : (takeS im (fr + at_)).2.2 = 0 := Classical.byContradiction fun hn => h2 (.inl hn)
      have h4 := takeS_ok h3
      have h5 := takeS_len im (fr + at_)
      cases h
      exact ⟨by omega, h3, rfl, rfl, by omega, by omega, by omega, h5⟩
end
theorem mayS_eq {im : List UInt8} {fr to : Int} {x : Bool} (h : x = true ↔ 0 ≤ fr ∧ fr ≤ to ∧ to ≤ im.length) : x = mayS im fr to := by
  rw [Bool.eq_iff_iff, h]
  unfold mayS
  simp only [Bool.and_eq_true, decide_eq_true_eq]
  omega
/-! ### a row in an image -/
section
variable (T pre post : List UInt8)
def imW : List UInt8 := pre ++ (frW T (nF T) ++ post)
def toW : Int := (pre.length : Int) + (frW T (nF T)).length
theorem may_W : mayS (imW T pre post) pre.length (toW T pre) = true := by
  unfold mayS imW toW
  simp only [List.length_append, Bool.and_eq_true, decide_eq_true_eq]
  omega
theorem take_W {q : Nat} (h : q < nF T) : takeS (imW T pre post) ((pre.length : Int) + (frW T q).length) = (chW T q, (pre.length : Int) + (frW T (q + 1)).length, 0) ∧ skipS (imW T pre post) ((pre.length : Int) + (frW T q).length) = ((pre.length : Int) + (frW T (q + 1)).length, 0) := by
  obtain ⟨z, hz⟩ := frW_split (T := T) h
  have h1 := takeS_put (chW_le T q) (pre ++ frW T q) (z ++ post)
  have e : imW T pre post = (pre ++ frW T q) ++ ((putS (chW T q)).1 ++ (z ++ post)) := by unfold imW; rw [hz]; simp [List.append_assoc]
  have e2 : (((pre ++ frW T q).length : Nat) : Int) = (pre.length : Int) + (frW T q).length := by rw [List.length_append]; omega
  have e3 : (frW T (q + 1)).length = (frW T q).length + (putS (chW T q)).1.length := by show (frW T q ++ _).length = _; rw [List.length_append]
  rw [← e, e2] at h1
  rw [e3]
  refine ⟨h1.1.trans ?_, h1.2.trans ?_⟩
  · congr 2; omega
  · congr 1; omega
theorem holds_W {q : Nat} (h : q < nF T) : holdsS (imW T pre post) pre.length (toW T pre) (frW T q).length = some (chW T q, ((frW T (q + 1)).length : Int)) := by
  obtain ⟨h1, _⟩ := take_W T pre post h
  have h2 := frW_mono (T := T) (Nat.le_of_lt h)
  have h3 := frW_mono (T := T) (show q + 1 ≤ nF T from h)
  have h4 : 0 < (chW T q).length := by rw [chW_len]; unfold nF at h; omega
  unfold holdsS toW
  rw [if_neg (by omega), h1]
  simp only
  rw [if_neg (by omega)]
  congr 2; omega
theorem holds_end : holdsS (imW T pre post) pre.length (toW T pre) (frW T (nF T)).length = none := by
  unfold holdsS
  split
  · rfl
  · by_cases h : (takeS (imW T pre post) ((pre.length : Int) + (frW T (nF T)).length)).2.2 = 0
    · have := takeS_ok h
      rw [if_pos (.inr (.inl (by unfold toW; omega)))]
    · rw [if_pos (.inl h)]
theorem chW_at {o : Nat} (h : o < T.length) : o / 128 < nF T ∧ o % 128 < (chW T (o / 128)).length := by
  rw [chW_len]; unfold nF; omega
theorem drop_drop' (l : List UInt8) (a b c : Nat) (h : a + b = c) : (l.drop a).drop b = l.drop c := by rw [List.drop_drop, h]
theorem rd_W (m : Nat) : ∀ (o : Nat) (out : List UInt8), o + m ≤ T.length →
    rdL (imW T pre post) pre.length (toW T pre) (out.length + m) (frW T (o / 128)).length (o % 128) out = (out ++ (T.drop o).take m, ((refT T (o + m) : Nat) : Int), 0) := by
  induction m using Nat.strongRecOn with
  | ind m ih =>
    intro o out h
    by_cases h0 : m = 0
    · subst h0
      rw [rdL_end (by omega)]
      unfold refT
      simp
    · obtain ⟨c1, c2⟩ := chW_at T (o := o) (by omega)
      have hh := holds_W T pre post c1
      have hlen := chW_len T (o / 128)
      have hp : ((chW T (o / 128)).drop (o % 128)).take (out.length + m - out.length) = (T.drop o).take (min (128 - o % 128) m) := by
        unfold chW
        rw [List.drop_take, drop_drop' T (128 * (o / 128)) (o % 128) o (by omega), List.take_take]
        congr 1; omega
      have hpl : ((T.drop o).take (min (128 - o % 128) m)).length = min (128 - o % 128) m := by rw [List.length_take, List.length_drop]; omega
      have key : (out ++ (T.drop o).take (min (128 - o % 128) m)) ++ (T.drop (o + min (128 - o % 128) m)).take (m - min (128 - o % 128) m) = out ++ (T.drop o).take m := by
        rw [List.append_assoc]
        congr 1
        have := List.take_append_drop (min (128 - o % 128) m) ((T.drop o).take m)
        rw [List.take_take, List.drop_take, List.drop_drop, Nat.min_eq_left (by omega)] at this
        exact this
      by_cases hk : o % 128 + min (128 - o % 128) m = 128
      · rw [rdL_next (by omega) hh (by omega) (by rw [hp, hpl]; exact hk), hp]
        have e := ih (m - min (128 - o % 128) m) (by omega) (o + min (128 - o % 128) m) (out ++ (T.drop o).take (min (128 - o % 128) m)) (by omega)
        rw [key, List.length_append, hpl, show out.length + min (128 - o % 128) m + (m - min (128 - o % 128) m) = out.length + m by omega, show (o + min (128 - o % 128) m) / 128 = o / 128 + 1 by omega, show (o + min (128 - o % 128) m) % 128 = 0 by omega,
          show o + min (128 - o % 128) m + (m - min (128 - o % 128) m) = o + m by omega] at e
        exact e
      · have hm : min (128 - o % 128) m = m := by omega
        rw [rdL_on (by omega) hh (by omega) (by rw [hp, hpl]; exact hk) (by rw [hp, List.length_append, hpl]; omega), hp, hpl, hm]
        rw [rdL_end (by rw [List.length_append, List.length_take, List.length_drop]; omega)]
        congr 2
        unfold refT
        rw [show (o + m) / 128 = o / 128 by omega]
        omega
theorem read_W {o m : Nat} (h : o + m ≤ T.length) : readS (imW T pre post) pre.length (toW T pre) (refT T o : Nat) (m : Nat) = ((T.drop o).take m, ((refT T (o + m) : Nat) : Int), 0) := by
  unfold readS
  have e1 : ((refT T o : Nat) : Int) / 256 = (frW T (o / 128)).length := by unfold refT; omega
  have e2 : (((refT T o : Nat) : Int) % 256).toNat = o % 128 := by unfold refT; omega
  rw [if_neg (by omega), if_neg (by rw [may_W]; simp), e1, e2, Int.toNat_natCast]
  have := rd_W T pre post m o [] h
  rw [List.length_nil, Nat.zero_add, List.nil_append] at this
  exact this
theorem rd_past (m : Nat) : ∀ (o : Nat) (out : List UInt8), o ≤ T.length → T.length < o + m →
    rdL (imW T pre post) pre.length (toW T pre) (out.length + m) (frW T (o / 128)).length (o % 128) out = ([], 0, 2) := by
  induction m using Nat.strongRecOn with
  | ind m ih =>
    intro o out ho h
    by_cases hT : o = T.length
    · by_cases h0 : o % 128 = 0
      · rw [show o / 128 = nF T by unfold nF; omega]
        exact rdL_none (by omega) (holds_end T pre post)
      · exact rdL_out (by omega) (holds_W T pre post (q := o / 128) (by unfold nF; omega)) (by rw [chW_len]; omega)
    · obtain ⟨c1, c2⟩ := chW_at T (o := o) (by omega)
      have hh := holds_W T pre post c1
      have hlen := chW_len T (o / 128)
      obtain ⟨x, hx⟩ : ∃ x, x = ((chW T (o / 128)).drop (o % 128)).take (out.length + m - out.length) := ⟨_, rfl⟩
      have hxl : x.length = min ((chW T (o / 128)).length - o % 128) m := by rw [hx, List.length_take, List.length_drop]; omega
      by_cases hk : o % 128 + x.length = 128
      · rw [rdL_next (by omega) hh (by omega) (by rw [← hx]; exact hk), ← hx]
        have e := ih (m - x.length) (by omega) (o + x.length) (out ++ x) (by omega) (by omega)
        rw [List.length_append, show out.length + x.length + (m - x.length) = out.length + m by omega, show (o + x.length) / 128 = o / 128 + 1 by omega, show (o + x.length) % 128 = 0 by omega] at e
        exact e
      · exact rdL_bad (by omega) hh (by omega) (by rw [← hx]; exact hk) (by rw [← hx, List.length_append]; omega)
theorem read_past {o m : Nat} (ho : o ≤ T.length) (h : T.length < o + m) : readS (imW T pre post) pre.length (toW T pre) (refT T o : Nat) (m : Nat) = ([], 0, 2) := by
  unfold readS
  have e1 : ((refT T o : Nat) : Int) / 256 = (frW T (o / 128)).length := by unfold refT; omega
  have e2 : (((refT T o : Nat) : Int) % 256).toNat = o % 128 := by unfold refT; omega
  rw [if_neg (by omega), if_neg (by rw [may_W]; simp), e1, e2, Int.toNat_natCast]
  have := rd_past T pre post m o [] ho h
  rw [List.length_nil, Nat.zero_add] at this
  exact this
theorem next_W {q : Nat} (h : q < nF T) : nextS (imW T pre post) pre.length (toW T pre) (256 * (frW T q).length : Nat) = (((256 * (frW T (q + 1)).length : Nat) : Int), 0) := by
  obtain ⟨_, h1⟩ := take_W T pre post h
  have h2 := frW_mono (T := T) (Nat.le_of_lt h)
  have h3 := frW_mono (T := T) (show q + 1 ≤ nF T from h)
  have e : ((256 * (frW T q).length : Nat) : Int) / 256 = (frW T q).length := by omega
  unfold nextS
  rw [if_neg (by omega), e, if_neg (by rw [may_W]; unfold toW; simp; omega), h1]
  simp only
  rw [if_neg (by unfold toW; simp; omega)]
  congr 1; omega
theorem next_end : nextS (imW T pre post) pre.length (toW T pre) (256 * (frW T (nF T)).length : Nat) = (0, 2) := by
  have e : ((256 * (frW T (nF T)).length : Nat) : Int) / 256 = (frW T (nF T)).length := by omega
  unfold nextS
  rw [if_neg (by omega), e]
  split
  · rfl
  · by_cases h : (skipS (imW T pre post) ((pre.length : Int) + (frW T (nF T)).length)).2 = 0
    · have : toW T pre < (skipS (imW T pre post) ((pre.length : Int) + (frW T (nF T)).length)).1 := by
        unfold skipS at h ⊢
        split at h
        · cases h
        · rename_i x s st hx
          simp only
          unfold toW lenF
          split <;> omega
      rw [if_pos (.inr this)]
    · rw [if_pos (.inl h)]
end
theorem imW_nil (T : List UInt8) : imW T [] [] = frW T (nF T) := by unfold imW; simp
theorem toW_nil (T : List UInt8) : toW T [] = (frW T (nF T)).length := by unfold toW; simp
end Go.Proofs.Ytoaplldahbbaiaa
/- meta: the program's writer. No condition beyond the bounds that each states. -/
namespace Go.Proofs.Ytoaplldahbbaiaa
open Go Go.RowKit
set_option linter.unusedVariables false

def mwC (p : Nat) (fo : Option Addr) (fn fc : Nat) (to : Option Addr) (tn tc : Nat) : List Value := [.pointer (some ⟨p, 0, none⟩), .slice fo fn fc, .slice to tn tc]
theorem mwC_one (p : Nat) (fo : Option Addr) (fn fc : Nat) (to : Option Addr) (tn tc : Nat) : ∀ v ∈ mwC p fo fn fc to tn tc, v.oneCell' = true := by
  intro v hv
  simp only [mwC, List.mem_cons, List.not_mem_nil, or_false] at hv
  rcases hv with rfl | rfl | rfl <;> rfl
/-- a writer in memory: its table, its frames, its rest; its blocks are of D -/
def MwO (D : Nat → Prop) (H : Array Obj) (g p : Nat) (f t : List UInt8) : Prop :=
  ∃ fo fc to tc, H[g]? = some (.cells (mwC p fo f.length fc to t.length tc).toArray 129 (0, 0)) ∧ Own b8 5 H fo fc f ∧ Own b8 5 H to tc t ∧ ¬ blk fo g ∧ ¬ blk to g ∧ Ap fo to ∧ D g ∧ (∀ k, blk fo k → D k) ∧ (∀ k, blk to k → D k) ∧ TbV H p ∧ ¬ D p
section
variable {D : Nat → Prop} {g p : Nat} {f t : List UInt8}
theorem MwO.lt {H : Array Obj} (h : MwO D H g p f t) : g < H.size := by obtain ⟨fo, fc, to, tc, hg, _⟩ := h; exact (Array.getElem?_eq_some_iff.1 hg).1
theorem MwO.keep {S : Nat → Prop} {w w' : World} (h : MwO D w.heap g p f t) (hf : Foot S w w') (hs : ∀ k, D k → ¬ S k) (hp : ¬ S p) : MwO D w'.heap g p f t := by
  obtain ⟨fo, fc, to, tc, hg, h1, h2, h3, h4, h5, h6, h7, h8, h9, h10⟩ := h
  exact ⟨fo, fc, to, tc, hf.obj hg (hs g h6), h1.keep hf (fun a ha => hs _ (h7 _ ⟨a, ha, rfl⟩)), h2.keep hf (fun a ha => hs _ (h8 _ ⟨a, ha, rfl⟩)), h3, h4, h5, h6, h7, h8, hf.obj h9 hp, h10⟩
theorem MwO.grow {w w' : World} (h : MwO D w.heap g p f t) (hf : Foot nob w w') : MwO D w'.heap g p f t := h.keep hf (fun _ _ => id) id
theorem MwO.mono {D' : Nat → Prop} {H : Array Obj} (h : MwO D H g p f t) (hd : ∀ k, D k → D' k) (hp : ¬ D' p) : MwO D' H g p f t := by
  obtain ⟨fo, fc, to, tc, hg, h1, h2, h3, h4, h5, h6, h7, h8, h9, h10⟩ := h
  exact ⟨fo, fc, to, tc, hg, h1, h2, h3, h4, h5, hd _ h6, fun k hk => hd _ (h7 k hk), fun k hk => hd _ (h8 k hk), h9, hp⟩
theorem MwO.shrink {S : Nat → Prop} {w w' : World} (h : MwO D w.heap g p f t) (hf : Foot S w w') (hs : ∀ k, D k → ¬ S k) (hp : ¬ S p) : MwO (fun k => D k ∧ (k < w.heap.size ∨ w'.heap.size ≤ k)) w'.heap g p f t := by
  have hk := h.keep hf hs hp
  have hl := h.lt
  obtain ⟨fo, fc, to, tc, hg, h1, h2, h3, h4, h5, h6, h7, h8, h9, h10⟩ := h
  exact ⟨fo, fc, to, tc, hf.obj hg (hs g h6), h1.keep hf (fun a ha => hs _ (h7 _ ⟨a, ha, rfl⟩)), h2.keep hf (fun a ha => hs _ (h8 _ ⟨a, ha, rfl⟩)), h3, h4, h5, ⟨h6, .inl hl⟩,
    fun k ⟨a, ha, hb⟩ => ⟨h7 k ⟨a, ha, hb⟩, .inl (by have := h1.lt a ha; omega)⟩, fun k ⟨a, ha, hb⟩ => ⟨h8 k ⟨a, ha, hb⟩, .inl (by have := h2.lt a ha; omega)⟩, hf.obj h9 hp, fun h => h10 h.1⟩
end

theorem mnew_ok (p : Nat) (W : World) (ht : TbV W.heap p) :
    Calls Try.prog 39 [.pointer (some ⟨p, 0, none⟩)].toArray W (Ret fun v w' => v = .pointer (some ⟨W.heap.size, 0, none⟩) ∧ MwO (fun k => W.heap.size ≤ k) w'.heap W.heap.size p [] [] ∧ Foot nob W w') := by
  refine calls_of_sc 6 [(0, _)] Try.func39 rfl rfl rfl (enter_slots ⟨rfl, trivial⟩) ?_
  refine Sc.seq ?_
  refine Sc.region ?_
  refine Sl.calm (Cm.assign rfl) rfl ?_
  refine Sl.nil ?_
  refine At.go ?_
  refine Sc.seq ?_
  refine Sc.region ?_
  refine Sl.calm (Cm.move rfl) rfl ?_
  refine Sl.calm (Cm.build (cs := #[.pointer (some ⟨p, 0, none⟩), .slice none 0 0, .slice none 0 0]) plc129 zc129 rfl (by kernel_rfl)) rfl ?_
  refine Sl.box rfl rfl ?_
  intro w1 hg1 hs1 hf1
  refine Sl.calm (Cm.assign rfl) rfl ?_
  refine Sl.nil ?_
  refine At.weak [(0, _), (2, _)] ⟨rfl, rfl, trivial⟩ ?_
  refine At.go ?_
  refine Sc.ret ?_
  refine At.ret1 rfl rfl ?_
  have hpl := (Array.getElem?_eq_some_iff.1 ht).1
  exact ⟨_, rfl, rfl, ⟨none, 0, none, 0, hg1, Own.nil, Own.nil, (fun ⟨a, ha, _⟩ => by cases ha), (fun ⟨a, ha, _⟩ => by cases ha), Ap.none_left, Nat.le_refl _, (fun k ⟨a, ha, _⟩ => by cases ha), (fun k ⟨a, ha, _⟩ => by cases ha), hf1.obj ht id, (by omega)⟩, hf1⟩

/-- the row behind: w.rest = append(w.rest, b..) -/
theorem mw_rest {D : Nat → Prop} {W w1 w2 : World} {g p : Nat} {f t t' : List UInt8} {fo to to' : Option Addr} {fc tc tc' : Nat} (hD : ∀ k, W.heap.size ≤ k → D k)
    (hg : W.heap[g]? = some (.cells (mwC p fo f.length fc to t.length tc).toArray 129 (0, 0))) (h1 : Own b8 5 W.heap fo fc f) (h3 : ¬ blk fo g) (h4 : ¬ blk to g) (h5 : Ap fo to) (h6 : D g) (h7 : ∀ k, blk fo k → D k) (h8 : ∀ k, blk to k → D k) (h9 : TbV W.heap p) (h10 : ¬ D p)
    (ho : Own b8 5 w1.heap to' tc' t') (hf1 : Foot (blk to) W w1) (hr : ∀ a, to' = some a → to = some a ∨ W.heap.size ≤ a.block)
    (hg2 : w2.heap[g]? = some (.cells (mwC p fo f.length fc to' t'.length tc').toArray 129 (0, 0))) (hf2 : Foot (· = g) w1 w2) :
    MwO D w2.heap g p f t' ∧ Foot D W w2 := by
  have hgl := (Array.getElem?_eq_some_iff.1 hg).1
  have hpl := (Array.getElem?_eq_some_iff.1 h9).1
  have hD1 : Foot D W w1 := hf1.mono h8
  have hD2 : Foot D W w2 := hD1.trans (hf2.mono (fun k h => by have h : k = g := h; subst h; exact h6))
  have hn : ¬ blk to' g := fun ⟨a, ha, hb⟩ => by
    rcases hr a ha with h | h
    · exact h4 ⟨a, h, hb⟩
    · omega
  refine ⟨⟨fo, fc, to', tc', hg2, (h1.keep hf1 (fun a ha ⟨b, hb, h⟩ => h5 a b ha hb h.symm)).keep hf2 (fun a ha h => h3 ⟨a, ha, h⟩), ho.keep hf2 (fun a ha h => hn ⟨a, ha, h⟩), h3, hn, fun a b ha hb e => ?_, h6, h7, fun k ⟨a, ha, hb⟩ => ?_, hD2.obj h9 h10, h10⟩, hD2⟩
  · rcases hr b hb with h | h
    · exact h5 a b ha h e
    · have := h1.lt a ha; omega
  · rcases hr a ha with h | h
    · exact h8 k ⟨a, h, hb⟩
    · exact hD k (by omega)
/-- w.full = append(w.full, x..) -/
theorem mw_full {D : Nat → Prop} {W w1 w2 : World} {g p : Nat} {f t f' : List UInt8} {fo to fo' : Option Addr} {fc tc fc' : Nat} (hD : ∀ k, W.heap.size ≤ k → D k)
    (hg : W.heap[g]? = some (.cells (mwC p fo f.length fc to t.length tc).toArray 129 (0, 0))) (h2 : Own b8 5 W.heap to tc t) (h3 : ¬ blk fo g) (h4 : ¬ blk to g) (h5 : Ap fo to) (h6 : D g) (h7 : ∀ k, blk fo k → D k) (h8 : ∀ k, blk to k → D k) (h9 : TbV W.heap p) (h10 : ¬ D p)
    (ho : Own b8 5 w1.heap fo' fc' f') (hf1 : Foot (blk fo) W w1) (hr : ∀ a, fo' = some a → fo = some a ∨ W.heap.size ≤ a.block)
    (hg2 : w2.heap[g]? = some (.cells (mwC p fo' f'.length fc' to t.length tc).toArray 129 (0, 0))) (hf2 : Foot (· = g) w1 w2) :
    MwO D w2.heap g p f' t ∧ Foot D W w2 := by
  have hgl := (Array.getElem?_eq_some_iff.1 hg).1
  have hpl := (Array.getElem?_eq_some_iff.1 h9).1
  have hD1 : Foot D W w1 := hf1.mono h7
  have hD2 : Foot D W w2 := hD1.trans (hf2.mono (fun k h => by have h : k = g := h; subst h; exact h6))
  have hn : ¬ blk fo' g := fun ⟨a, ha, hb⟩ => by
    rcases hr a ha with h | h
    · exact h3 ⟨a, h, hb⟩
    · omega
  refine ⟨⟨fo', fc', to, tc, hg2, ho.keep hf2 (fun a ha h => hn ⟨a, ha, h⟩), (h2.keep hf1 (fun a ha ⟨b, hb, h⟩ => h5 b a hb ha h)).keep hf2 (fun a ha h => h4 ⟨a, ha, h⟩), hn, h4, fun a b ha hb e => ?_, h6, fun k ⟨a, ha, hb⟩ => ?_, h8, hD2.obj h9 h10, h10⟩, hD2⟩
  · rcases hr a ha with h | h
    · exact h5 a b h hb e
    · have := h2.lt b hb; omega
  · rcases hr a ha with h | h
    · exact h7 k ⟨a, h, hb⟩
    · exact hD k (by omega)
/-- w.rest = a new row -/
theorem mw_new {D : Nat → Prop} {W w1 w2 : World} {g p : Nat} {f t t' : List UInt8} {fo to to' : Option Addr} {fc tc tc' : Nat} (hD : ∀ k, W.heap.size ≤ k → D k)
    (hg : W.heap[g]? = some (.cells (mwC p fo f.length fc to t.length tc).toArray 129 (0, 0))) (h1 : Own b8 5 W.heap fo fc f) (h3 : ¬ blk fo g) (h6 : D g) (h7 : ∀ k, blk fo k → D k) (h9 : TbV W.heap p) (h10 : ¬ D p)
    (ho : Own b8 5 w1.heap to' tc' t') (hf1 : Foot nob W w1) (hr : Fr W.heap.size to')
    (hg2 : w2.heap[g]? = some (.cells (mwC p fo f.length fc to' t'.length tc').toArray 129 (0, 0))) (hf2 : Foot (· = g) w1 w2) :
    MwO D w2.heap g p f t' ∧ Foot D W w2 := by
  have hgl := (Array.getElem?_eq_some_iff.1 hg).1
  have hpl := (Array.getElem?_eq_some_iff.1 h9).1
  have hD2 : Foot D W w2 := (hf1.any).trans (hf2.mono (fun k h => by have h : k = g := h; subst h; exact h6))
  have hn : ¬ blk to' g := fun ⟨a, ha, hb⟩ => by have := hr a ha; omega
  exact ⟨⟨fo, fc, to', tc', hg2, (h1.grow hf1).keep hf2 (fun a ha h => h3 ⟨a, ha, h⟩), ho.keep hf2 (fun a ha h => hn ⟨a, ha, h⟩), h3, hn, fun a b ha hb e => (by have := h1.lt a ha; have := hr b hb; omega), h6, h7, fun k ⟨a, ha, hb⟩ => hD k (by have := hr a ha; omega), hD2.obj h9 h10, h10⟩, hD2⟩

set_option maxHeartbeats 2000000 in
theorem madd_ok (D : Nat → Prop) (g p : Nat) (f t : List UInt8) (bo : Option Addr) (bc : Nat) (b : List UInt8) (W : World) (hM : MwO D W.heap g p f t) (hD : ∀ k, W.heap.size ≤ k → D k) (hv : Vw b8 W.heap bo bc b) (hb : f.length + 2 * (t.length + b.length) ≤ 1099511627776) :
    Calls Try.prog 40 [.pointer (some ⟨g, 0, none⟩), .slice bo b.length bc].toArray W
      (Ret fun v w' => v = .int .i64 (256 * f.length + t.length : Nat) ∧ MwO D w'.heap g p (cutW f (t ++ b)).1 (cutW f (t ++ b)).2 ∧ Foot D W w') := by
  have hM0 := hM
  obtain ⟨fo, fc, to, tc, hg, h1, h2, h3, h4, h5, h6, h7, h8, h9, h10⟩ := hM
  refine calls_of_sc 67 [(0, _), (1, _)] Try.func40 rfl rfl rfl (enter_slots ⟨rfl, rfl, trivial⟩) ?_
  refine Sc.seq ?_
  refine Sc.region ?_
  refine Sl.calm (Cm.assign rfl) rfl ?_
  refine Sl.nil ?_
  refine At.go ?_
  refine Sc.seq ?_
  refine Sc.quiet 13 [0, 1, 2, 3, 4, 5, 6, 7, 8, 9, 10, 11, 12] mixed (by kernel_rfl) ?_
  refine Sx.calm rfl rfl (Cm.move rfl) rfl ?_
  refine Sx.calm rfl rfl (Cm.nilCheck rfl) rfl ?_
  refine Sx.calm rfl rfl (Cm.field fld129_1 rfl) rfl ?_
  refine Sx.calm rfl rfl (Cm.ld sca25 rfl (cellF hg rfl)) rfl ?_
  refine Sx.calm rfl rfl (Cm.len sl25 rfl) rfl ?_
  refine Sx.calm rfl rfl (Cm.mul64 rfl rfl (by omega)) rfl ?_
  refine Sx.calm rfl rfl (Cm.move rfl) rfl ?_
  refine Sx.calm rfl rfl (Cm.nilCheck rfl) rfl ?_
  refine Sx.calm rfl rfl (Cm.field fld129_2 rfl) rfl ?_
  refine Sx.calm rfl rfl (Cm.ld sca25 rfl (cellF hg rfl)) rfl ?_
  refine Sx.calm rfl rfl (Cm.len sl25 rfl) rfl ?_
  refine Sx.calm rfl rfl (Cm.add64 rfl rfl (by omega)) rfl ?_
  refine Sx.calm rfl rfl (Cm.assign rfl) rfl ?_
  refine Sx.nil ?_
  refine At.weak [(0, _), (1, _), (4, _), (5, _)] ⟨rfl, rfl, rfl, rfl, trivial⟩ ?_
  refine At.go ?_
  refine Sc.seq ?_
  refine Sc.region ?_
  refine Sl.calm (Cm.move rfl) rfl ?_
  refine Sl.calm (Cm.move rfl) rfl ?_
  refine Sl.calm (Cm.nilCheck rfl) rfl ?_
  refine Sl.calm (Cm.field fld129_2 rfl) rfl ?_
  refine Sl.calm (Cm.ld sca25 rfl (cellF hg rfl)) rfl ?_
  refine Sl.calm (Cm.move rfl) rfl ?_
  refine Sl.append b8_one sl25 rfl rfl h2 hv (by omega) (by unfold maxLen; omega) rfl ?_
  intro to1 tc1 w1 ho1 hf1 hr1 hn1
  have hf1 := hf1.undraw
  have hg1 := hf1.obj hg h4
  refine Sl.calm (Cm.nilCheck rfl) rfl ?_
  refine Sl.calm (Cm.field fld129_2 rfl) rfl ?_
  refine Sl.store sca25 rfl rfl rfl hg1 rfl ?_
  intro w2 hg2 hs2 hf2
  obtain ⟨hM2, hF2⟩ := mw_rest hD hg h1 h3 h4 h5 h6 h7 h8 h9 h10 ho1 hf1 hr1 hg2 hf2
  have hW2 := hF2.size
  refine Sl.nil ?_
  refine At.weak [(0, _), (1, _), (4, _), (5, _)] ⟨rfl, rfl, rfl, rfl, trivial⟩ ?_
  refine At.go ?_
  refine Sc.seq ?_
  refine Sc.block ?_
  refine Sc.loop (β := List UInt8 × List UInt8) (fun ⟨f9, t9⟩ => [(0, .pointer (some ⟨g, 0, none⟩)), (5, .int .i64 (256 * f.length + t.length : Nat))]) (fun ⟨f9, t9⟩ w => cutW f9 t9 = cutW f (t ++ b) ∧ MwO D w.heap g p f9 t9 ∧ Foot D W w ∧ f9.length + 2 * t9.length ≤ 1099511627776) (fun ⟨f9, t9⟩ => t9.length) ⟨f, t ++ b⟩ ⟨rfl, rfl, trivial⟩ ⟨rfl, hM2, hF2, by rw [List.length_append]; omega⟩ ?_
  rintro ⟨f9, t9⟩ w3 ⟨hcw, hM3, hF3, hb3⟩
  obtain ⟨ho, hcap, ko, kc, kg, k1, k2, k3, k4, k5, k6, k7, k8, k9, k10⟩ := hM3
  have hM3 : MwO D w3.heap g p f9 t9 := ⟨ho, hcap, ko, kc, kg, k1, k2, k3, k4, k5, k6, k7, k8, k9, k10⟩
  refine Sc.seq ?_
  refine Sc.seq ?_
  refine Sc.region ?_
  refine Sl.calm (Cm.move rfl) rfl ?_
  refine Sl.calm (Cm.nilCheck rfl) rfl ?_
  refine Sl.calm (Cm.field fld129_2 rfl) rfl ?_
  refine Sl.calm (Cm.ld sca25 rfl (cellF kg rfl)) rfl ?_
  refine Sl.calm (Cm.len sl25 rfl) rfl ?_
  refine Sl.fork (Cm.geq rfl rfl) rfl (fun h34 => ?_) (fun h34 => ?_)
  ·
    have hbig : 128 ≤ t9.length := by omega
    have htk := take_len128 hbig
    have hle3 := k2.vw.le
    have hps := putS_len (b := t9.take 128) (by omega)
    refine Sl.nil ?_
    refine At.weak [(0, _), (5, _), (34, _)] ⟨rfl, rfl, rfl, trivial⟩ ?_
    refine At.go ?_
    refine Sc.cond_t rfl ?_
    refine Sc.skip ?_
    refine At.go ?_
    refine Sc.block ?_
    refine Sc.seq ?_
    refine Sc.draw 15 (fun H => H[g]? = some (.cells (mwC p ho f9.length hcap ko t9.length kc).toArray 129 (0, 0))) [9] [0, 1, 2, 3, 4, 5, 6, 7, 8, 9, 10, 11, 12, 13, 14] mixed (by kernel_rfl) (kg) ?_
    refine Sx.calm rfl rfl (Cm.move rfl) rfl ?_
    refine Sx.calm rfl rfl (Cm.nilCheck rfl) rfl ?_
    refine Sx.calm rfl rfl (Cm.field fld129_0 rfl) rfl ?_
    refine Sx.calm rfl rfl (Cm.load sca46 rfl (fun H hH => cellF hH rfl)) rfl ?_
    refine Sx.calm rfl rfl (Cm.move rfl) rfl ?_
    refine Sx.calm rfl rfl (Cm.nilCheck rfl) rfl ?_
    refine Sx.calm rfl rfl (Cm.field fld129_2 rfl) rfl ?_
    refine Sx.calm rfl rfl (Cm.load sca25 rfl (fun H hH => cellF hH rfl)) rfl ?_
    refine Sx.calm rfl rfl (Cm.ofEq (u := .slice ko (t9.take 128).length kc) (Cm.sliceH sl25 rfl rfl (by omega)) (by rw [cutAo_zero, htk]; rfl)) rfl ?_
    refine Sx.eff rfl rfl (Sl.call fn70 rfl (fput_ok p ko kc (t9.take 128) _ k9 (k2.vw.take 128)) rfl ?_)
    rintro _ w4 ⟨o4, c4, rfl, ho4, hfr4, hf4⟩
    refine Sx.on (by exact hf4.undraw.obj kg id) ?_
    have hf4 := hf4.undraw
    have hz4 := hf4.size
    have hg4 := hf4.obj kg id
    refine Sx.calm rfl rfl (Cm.move rfl) rfl ?_
    refine Sx.calm rfl rfl (Cm.extract rfl rfl) rfl ?_
    refine Sx.calm rfl rfl (Cm.extract rfl rfl) rfl ?_
    refine Sx.calm rfl rfl (Cm.assign rfl) rfl ?_
    refine Sx.calm rfl rfl (Cm.assign rfl) rfl ?_
    refine Sx.nil ?_
    refine At.weak [(0, _), (5, _), (6, _), (34, _)] ⟨rfl, rfl, rfl, rfl, trivial⟩ ?_
    refine At.go ?_
    refine Sc.seq ?_
    refine Sc.region ?_
    refine Sl.calm (Cm.move rfl) rfl ?_
    refine Sl.calm (Cm.move rfl) rfl ?_
    refine Sl.calm (Cm.nilCheck rfl) rfl ?_
    refine Sl.calm (Cm.field fld129_1 rfl) rfl ?_
    refine Sl.calm (Cm.ld sca25 rfl (cellF hg4 rfl)) rfl ?_
    refine Sl.calm (Cm.move rfl) rfl ?_
    refine Sl.append b8_one sl25 rfl rfl (k1.grow hf4) ho4.vw (by omega) (by unfold maxLen; omega) rfl ?_
    intro fo5 fc5 w5 ho5 hf5 hr5 hn5
    have hg5 := hf5.obj hg4 k3
    refine Sl.calm (Cm.nilCheck rfl) rfl ?_
    refine Sl.calm (Cm.field fld129_1 rfl) rfl ?_
    refine Sl.store sca25 rfl rfl rfl hg5 rfl ?_
    intro w6 hg6 hs6 hf6
    obtain ⟨hM6, hF6⟩ := mw_full (hf_lt hf4 (hf_lt hF3 hD)) hg4 (k2.grow hf4) k3 k4 k5 k6 k7 k8 (hf4.obj k9 id) k10 ho5 hf5 hr5 hg6 hf6
    obtain ⟨jo, jc, lo, lc, jg, j1, j2, j3, j4, j5, j6, j7, j8, j9, j10⟩ := hM6
    have hz6 := hF6.size
    have hlej := j2.vw.le
    have hcl : (t9.drop 128).length = t9.length - 128 := List.length_drop
    refine Sl.nil ?_
    refine At.weak [(0, _), (5, _), (6, _), (34, _)] ⟨rfl, rfl, rfl, rfl, trivial⟩ ?_
    refine At.go ?_
    refine Sc.region ?_
    refine Sl.calm (Cm.move rfl) rfl ?_
    refine Sl.calm (Cm.move rfl) rfl ?_
    refine Sl.calm (Cm.nilCheck rfl) rfl ?_
    refine Sl.calm (Cm.field fld129_2 rfl) rfl ?_
    refine Sl.calm (Cm.ld sca25 rfl (cellF jg rfl)) rfl ?_
    refine Sl.calm (Cm.ofEq (u := .slice (cutAo lo lc 128 1) (t9.drop 128).length (lc - 128)) (Cm.sliceL sl25 rfl rfl (by omega)) (by rw [hcl]; rfl)) rfl ?_
    refine Sl.call fn60 rfl (sclone_ok (cutAo lo lc 128 1) (lc - 128) (t9.drop 128) w6 (by have := j2.vw.cut (l := 128) (h := t9.length) (m := lc) (by omega) (by omega) (by omega) (Nat.le_refl _); rwa [List.take_of_length_le (by omega)] at this) (by rw [hcl]; omega)) rfl ?_
    rintro _ w7 ⟨o7, c7, rfl, ho7, hfr7, hf7⟩
    have hg7 := hf7.obj jg id
    refine Sl.calm (Cm.nilCheck rfl) rfl ?_
    refine Sl.calm (Cm.field fld129_2 rfl) rfl ?_
    refine Sl.store sca25 rfl rfl rfl hg7 rfl ?_
    intro w8 hg8 hs8 hf8
    obtain ⟨hM8, hF8⟩ := mw_new (hf_lt hF6 (hf_lt hf4 (hf_lt hF3 hD))) jg j1 j3 j6 j7 j9 j10 ho7 hf7 hfr7 hg8 hf8
    refine Sl.nil ?_
    refine At.block_normal ?_
    exact At.again ⟨f9 ++ (putS (t9.take 128)).1, t9.drop 128⟩ ⟨rfl, rfl, trivial⟩ ⟨by rw [← cutW_big hbig]; exact hcw, hM8, ((hF3.trans hf4.any).trans hF6).trans hF8, by rw [List.length_append, hcl]; omega⟩ (by show (t9.drop 128).length < t9.length; omega)
  ·
    have hsm : t9.length < 128 := by omega
    refine Sl.nil ?_
    refine At.weak [(0, _), (5, _), (34, _)] ⟨rfl, rfl, rfl, trivial⟩ ?_
    refine At.go ?_
    refine Sc.cond_f rfl ?_
    refine Sc.exit ?_
    refine At.then_exit ?_
    refine At.then_exit ?_
    refine At.block_hit ?_
    refine At.go ?_
    refine Sc.seq ?_
    refine Sc.region ?_
    refine Sl.calm (Cm.move rfl) rfl ?_
    refine Sl.calm (Cm.assign rfl) rfl ?_
    refine Sl.nil ?_
    refine At.weak [(0, _), (4, _), (5, _), (34, _)] ⟨rfl, rfl, rfl, rfl, trivial⟩ ?_
    refine At.go ?_
    refine Sc.ret ?_
    refine At.ret1 rfl rfl ?_
    rw [cutW_small hsm] at hcw
    rw [← hcw]
    exact ⟨_, rfl, rfl, hM3, hF3⟩

set_option maxHeartbeats 1000000 in
theorem mdone_ok (D : Nat → Prop) (g p : Nat) (f t : List UInt8) (W : World) (hM : MwO D W.heap g p f t) (hb : f.length ≤ 1099511627000) (htl : t.length < 128) :
    Calls Try.prog 41 [.pointer (some ⟨g, 0, none⟩)].toArray W (Ret (CloneP W (doneW f t))) := by
  obtain ⟨fo, fc, to, tc, hg, h1, h2, h3, h4, h5, h6, h7, h8, h9, h10⟩ := hM
  refine calls_of_sc 35 [(0, _)] Try.func41 rfl rfl rfl (enter_slots ⟨rfl, trivial⟩) ?_
  refine Sc.seq ?_
  refine Sc.region ?_
  refine Sl.calm (Cm.assign rfl) rfl ?_
  refine Sl.nil ?_
  refine At.go ?_
  refine Sc.seq ?_
  refine Sc.seq ?_
  refine Sc.region ?_
  refine Sl.calm (Cm.move rfl) rfl ?_
  refine Sl.calm (Cm.nilCheck rfl) rfl ?_
  refine Sl.calm (Cm.field fld129_2 rfl) rfl ?_
  refine Sl.calm (Cm.ld sca25 rfl (cellF hg rfl)) rfl ?_
  refine Sl.calm (Cm.len sl25 rfl) rfl ?_
  refine Sl.fork (Cm.eql rfl rfl) rfl (fun h10 => ?_) (fun h10 => ?_)
  ·
    have e : doneW f t = f := by unfold doneW; rw [if_pos (by omega)]
    refine Sl.nil ?_
    refine At.weak [(0, _), (2, _), (10, _)] ⟨rfl, rfl, rfl, trivial⟩ ?_
    refine At.go ?_
    refine Sc.cond_t rfl ?_
    refine Sc.seq ?_
    refine Sc.region ?_
    refine Sl.calm (Cm.move rfl) rfl ?_
    refine Sl.calm (Cm.nilCheck rfl) rfl ?_
    refine Sl.calm (Cm.field fld129_1 rfl) rfl ?_
    refine Sl.calm (Cm.ld sca25 rfl (cellF hg rfl)) rfl ?_
    refine Sl.call fn60 rfl (sclone_ok fo fc f W h1.vw (by omega)) rfl ?_
    intro _ w1 hP1
    refine Sl.calm (Cm.assign rfl) rfl ?_
    refine Sl.nil ?_
    refine At.weak [(0, _), (2, _), (10, _)] ⟨rfl, rfl, rfl, trivial⟩ ?_
    refine At.go ?_
    refine Sc.ret ?_
    refine At.then_ret ?_
    refine At.ret1 rfl rfl ?_
    rw [e]
    first
      | exact ⟨_, rfl, hP1⟩
      | (have e3 : [f, (putS t).1].flatten = f ++ (putS t).1 := by simp
         rw [e3] at ho3 ⊢
         exact ⟨_, rfl, o3, c3, rfl, ho3, hfr3.mono ((hf1.trans hf2).size), (hf1.trans hf2).trans hf3⟩)
  ·
    have e : doneW f t = f ++ (putS t).1 := by unfold doneW; rw [if_neg (by omega)]
    have hps := putS_len (b := t) (by omega)
    refine Sl.nil ?_
    refine At.weak [(0, _), (2, _), (10, _)] ⟨rfl, rfl, rfl, trivial⟩ ?_
    refine At.go ?_
    refine Sc.cond_f rfl ?_
    refine Sc.skip ?_
    refine At.go ?_
    refine Sc.seq ?_
    refine Sc.draw 14 (fun H => H[g]? = some (.cells (mwC p fo f.length fc to t.length tc).toArray 129 (0, 0))) [8] [0, 1, 2, 3, 4, 5, 6, 7, 8, 9, 10, 11, 12, 13] mixed (by kernel_rfl) (hg) ?_
    refine Sx.calm rfl rfl (Cm.move rfl) rfl ?_
    refine Sx.calm rfl rfl (Cm.nilCheck rfl) rfl ?_
    refine Sx.calm rfl rfl (Cm.field fld129_0 rfl) rfl ?_
    refine Sx.calm rfl rfl (Cm.load sca46 rfl (fun H hH => cellF hH rfl)) rfl ?_
    refine Sx.calm rfl rfl (Cm.move rfl) rfl ?_
    refine Sx.calm rfl rfl (Cm.nilCheck rfl) rfl ?_
    refine Sx.calm rfl rfl (Cm.field fld129_2 rfl) rfl ?_
    refine Sx.calm rfl rfl (Cm.load sca25 rfl (fun H hH => cellF hH rfl)) rfl ?_
    refine Sx.eff rfl rfl (Sl.call fn70 rfl (fput_ok p to tc t _ h9 h2.vw) rfl ?_)
    rintro _ w1 ⟨o1, c1, rfl, ho1, hfr1, hf1⟩
    refine Sx.on (by exact hf1.undraw.obj hg id) ?_
    have hf1 := hf1.undraw
    have hg1 := hf1.obj hg id
    refine Sx.calm rfl rfl (Cm.move rfl) rfl ?_
    refine Sx.calm rfl rfl (Cm.extract rfl rfl) rfl ?_
    refine Sx.calm rfl rfl (Cm.extract rfl rfl) rfl ?_
    refine Sx.calm rfl rfl (Cm.assign rfl) rfl ?_
    refine Sx.calm rfl rfl (Cm.assign rfl) rfl ?_
    refine Sx.nil ?_
    refine At.weak [(0, _), (2, _), (3, _), (10, _)] ⟨rfl, rfl, rfl, rfl, trivial⟩ ?_
    refine At.go ?_
    refine Sc.seq ?_
    refine Sc.region ?_
    refine Sl.calm (Cm.move rfl) rfl ?_
    refine Sl.calm (Cm.nilCheck rfl) rfl ?_
    refine Sl.calm (Cm.field fld129_1 rfl) rfl ?_
    refine Sl.calm (Cm.ld sca25 rfl (cellF hg1 rfl)) rfl ?_
    refine Sl.calm (Cm.move rfl) rfl ?_
    refine Sl.lit2 (enc := hd) (u := ⟨fo, f.length, fc⟩) (u' := ⟨o1, (putS t).1.length, c1⟩) sl114 hd_one rfl rfl rfl ?_
    intro w2 ho2 hs2 hf2
    refine Sl.call fn71 rfl (sconcat_ok (fun _ => True) _ _ [⟨fo, f.length, fc⟩, ⟨o1, (putS t).1.length, c1⟩] [f, (putS t).1] w2 ho2.vw ((RowsV.nil.snoc (x := ⟨fo, f.length, fc⟩) rfl ((h1.grow hf1).grow hf2).vw (fun _ _ _ => trivial)).snoc (x := ⟨o1, (putS t).1.length, c1⟩) rfl (ho1.grow hf2).vw (fun _ _ _ => trivial)) (by simp; omega)) rfl ?_
    rintro _ w3 ⟨o3, c3, rfl, ho3, hfr3, hf3⟩
    refine Sl.calm (Cm.assign rfl) rfl ?_
    refine Sl.nil ?_
    refine At.weak [(0, _), (2, _), (3, _), (10, _)] ⟨rfl, rfl, rfl, rfl, trivial⟩ ?_
    refine At.go ?_
    refine Sc.ret ?_
    refine At.ret1 rfl rfl ?_
    rw [e]
    first
      | exact ⟨_, rfl, hP1⟩
      | (have e3 : [f, (putS t).1].flatten = f ++ (putS t).1 := by simp
         rw [e3] at ho3 ⊢
         exact ⟨_, rfl, o3, c3, rfl, ho3, hfr3.mono ((hf1.trans hf2).size), (hf1.trans hf2).trans hf3⟩)
end Go.Proofs.Ytoaplldahbbaiaa
/- meta: the reference's writer. No condition beyond the bounds that each states. -/
namespace Go.Proofs.Ytoaplldahbbaiaa
open Go Go.RowKit
set_option linter.unusedVariables false

def rwC (fo : Option Addr) (fn fc : Nat) (to : Option Addr) (tn tc : Nat) : List Value := [.slice fo fn fc, .slice to tn tc]
section
variable {D : Nat → Prop} {g : Nat} {f t : List UInt8}
end
theorem Vw.keepN {α : Type} {enc : α → Value} {ao : Option Addr} {cap : Nat} {xs : List α} {w w' : World} {S : Nat → Prop} (h : Vw enc w.heap ao cap xs) (f : Foot S w w') (hs : xs ≠ [] → ∀ a, ao = some a → ¬ S a.block) : Vw enc w'.heap ao cap xs := h.keep' f hs
theorem cutW_snoc (f t : List UInt8) (x : UInt8) : cutW f (t ++ [x]) = if ((cutW f t).2 ++ [x]).length = 128 then ((cutW f t).1 ++ (putS ((cutW f t).2 ++ [x])).1, []) else ((cutW f t).1, (cutW f t).2 ++ [x]) := by
  have h := cutW_rest f t
  rw [cutW_app]
  split
  · rename_i h1; rw [cutW_full h1]
  · rename_i h1; rw [cutW_small (by rw [List.length_append] at h1 ⊢; simp at h1 ⊢; omega)]
theorem tk_snoc {b : List UInt8} {i : Nat} (h : i < b.length) : b.take (i + 1) = b.take i ++ [b.getD i 0] := by
  rw [List.take_succ_eq_append_getElem h, List.getD, List.getElem?_eq_getElem h]; rfl

end Go.Proofs.Ytoaplldahbbaiaa
/- meta: the program's reader. No condition beyond the bounds that each states. -/
namespace Go.Proofs.Ytoaplldahbbaiaa
open Go Go.RowKit
set_option linter.unusedVariables false

def held0 : Value := .agg #[.slice none 0 0, .int .i64 0]
theorem mpH : MapT Try.prog 109 3 142 held0 := ⟨by kernel_rfl, by kernel_rfl⟩
theorem setM_mem {α : Type} [DecidableEq α] {a x : α} {v y : Value} : ∀ {m : List (α × Value)}, (x, y) ∈ setM m a v → (x = a ∧ y = v) ∨ (x, y) ∈ m
  | [], h => by
    simp only [setM, List.mem_singleton, Prod.mk.injEq] at h; exact .inl h
  | p :: r, h => by
    unfold setM at h
    split at h
    · rcases List.mem_cons.1 h with h | h
      · cases h; exact .inl ⟨rfl, rfl⟩
      · exact .inr (List.mem_cons_of_mem _ h)
    · rcases List.mem_cons.1 h with h | h
      · rw [h]; exact .inr (by simp)
      · rcases setM_mem h with h | h
        · exact .inl h
        · exact .inr (List.mem_cons_of_mem _ h)
theorem cell_neMap {α : Type} {enc : α → Value} {H : Array Obj} {gm : Nat} {m : List (α × Value)} (hm : MapL enc H gm m) {a : Addr} {v : Value} (h : cellH H a = some v) : a.block ≠ gm := by
  intro e
  unfold cellH at h
  rw [e, hm.1] at h
  cases h
theorem obj_neMap {α : Type} {enc : α → Value} {H : Array Obj} {gm g : Nat} {m : List (α × Value)} (hm : MapL enc H gm m) {cs : Array Value} {T : TypeId} {z : Nat × Nat} (h : H[g]? = some (.cells cs T z)) : g ≠ gm := by
  intro e
  rw [e, hm.1] at h
  cases h
theorem Vw.neMap {α β : Type} {enc : α → Value} {en : β → Value} {H : Array Obj} {gm : Nat} {m : List (β × Value)} {ao : Option Addr} {c : Nat} {xs : List α} (h : Vw enc H ao c xs) (hm : MapL en H gm m) (hne : xs ≠ []) : ∀ a, ao = some a → a.block ≠ gm := by
  intro a ha
  have := h.at (i := 0) (List.length_pos_iff.2 hne)
  have := cell_neMap hm this
  rw [ha, adr_block] at this; exact this
theorem Own.neMap {α β : Type} {enc : α → Value} {en : β → Value} {e : TypeId} {H : Array Obj} {gm : Nat} {m : List (β × Value)} {ao : Option Addr} {c : Nat} {xs : List α} (h : Own enc e H ao c xs) (hm : MapL en H gm m) : ∀ a, ao = some a → a.block ≠ gm := by
  intro a ha
  rcases h with ⟨h, _⟩ | ⟨g, cur, rfl, hg, _⟩
  · rw [h] at ha; cases ha
  · cases ha; exact obj_neMap hm hg

def mrC (p : Nat) (io : Option Addr) (il ic : Nat) (fr to : Int) (gm : Nat) : List Value := [.pointer (some ⟨p, 0, none⟩), .slice io il ic, .int .i64 fr, .int .i64 to, .map (some gm)]
def hvC (bo : Option Addr) (bl bc : Nat) (nx : Int) : List Value := [.slice bo bl bc, .int .i64 nx]
theorem hvC_one (bo : Option Addr) (bl bc : Nat) (nx : Int) : ∀ v ∈ hvC bo bl bc nx, v.oneCell' = true := by
  intro v hv
  simp only [hvC, List.mem_cons, List.not_mem_nil, or_false] at hv
  rcases hv with rfl | rfl <;> rfl
/-- what is known of frames -/
def HmV (D : Nat → Prop) (H : Array Obj) (im : List UInt8) (fr to : Int) (m : List (I6 × Value)) : Prop :=
  ∀ a v, (a, v) ∈ m → ∃ bo bc b nx, v = .agg (hvC bo b.length bc nx).toArray ∧ holdsS im fr to a.1 = some (b, nx) ∧ Vw b8 H bo bc b ∧ ∀ k, blk bo k → D k
/-- a reader in memory; its blocks are of D -/
def MrO (D : Nat → Prop) (H : Array Obj) (g p : Nat) (im : List UInt8) (fr to : Int) : Prop :=
  ∃ io ic gm m, H[g]? = some (.cells (mrC p io im.length ic fr to gm).toArray 111 (0, 0)) ∧ Own b8 5 H io ic im ∧ MapL enI H gm m ∧ HmV D H im fr to m ∧ D g ∧ D gm ∧ (∀ k, blk io k → D k) ∧ TbV H p ∧ ¬ D p
section
variable {D : Nat → Prop} {g p : Nat} {im : List UInt8} {fr to : Int}
theorem MrO.lt {H : Array Obj} (h : MrO D H g p im fr to) : g < H.size := by obtain ⟨io, ic, gm, m, hg, _⟩ := h; exact (Array.getElem?_eq_some_iff.1 hg).1
theorem HmV.keep {S : Nat → Prop} {w w' : World} {m : List (I6 × Value)} (h : HmV D w.heap im fr to m) (hf : Foot S w w') (hs : ∀ k, D k → ¬ S k) : HmV D w'.heap im fr to m := fun a v hv => by
  obtain ⟨bo, bc, b, nx, e, h1, h2, h3⟩ := h a v hv
  exact ⟨bo, bc, b, nx, e, h1, h2.keep hf (fun x hx => hs _ (h3 _ ⟨x, hx, rfl⟩)), h3⟩
theorem MrO.keep {S : Nat → Prop} {w w' : World} (h : MrO D w.heap g p im fr to) (hf : Foot S w w') (hs : ∀ k, D k → ¬ S k) (hp : ¬ S p) : MrO D w'.heap g p im fr to := by
  obtain ⟨io, ic, gm, m, hg, h1, h2, h3, h4, h5, h6, h7, h8⟩ := h
  exact ⟨io, ic, gm, m, hf.obj hg (hs g h4), h1.keep hf (fun a ha => hs _ (h6 _ ⟨a, ha, rfl⟩)), h2.keep hf (hs _ h5), h3.keep hf hs, h4, h5, h6, hf.obj h7 hp, h8⟩
theorem MrO.grow {w w' : World} (h : MrO D w.heap g p im fr to) (hf : Foot nob w w') : MrO D w'.heap g p im fr to := h.keep hf (fun _ _ => id) id
theorem MrO.shrink {S : Nat → Prop} {w w' : World} (h : MrO D w.heap g p im fr to) (hf : Foot S w w') (hs : ∀ k, D k → ¬ S k) (hp : ¬ S p) : MrO (fun k => D k ∧ (k < w.heap.size ∨ w'.heap.size ≤ k)) w'.heap g p im fr to := by
  have hl := h.lt
  obtain ⟨io, ic, gm, m, hg, h1, h2, h3, h4, h5, h6, h7, h8⟩ := h
  refine ⟨io, ic, gm, m, hf.obj hg (hs g h4), h1.keep hf (fun a ha => hs _ (h6 _ ⟨a, ha, rfl⟩)), h2.keep hf (hs _ h5), fun a v hv => ?_, ⟨h4, .inl hl⟩, ⟨h5, .inl h2.obj⟩, fun k ⟨a, ha, hb⟩ => ⟨h6 k ⟨a, ha, hb⟩, .inl (by have := h1.lt a ha; omega)⟩, hf.obj h7 hp, fun h => h8 h.1⟩
  obtain ⟨bo, bc, b, nx, e, k1, k2, k3⟩ := h3 a v hv
  have hb := (holdsS_some k1).2.2.2.2.2.2.1
  exact ⟨bo, bc, b, nx, e, k1, k2.keep hf (fun x hx => hs _ (k3 _ ⟨x, hx, rfl⟩)), fun k ⟨x, hx, hk⟩ => ⟨k3 k ⟨x, hx, hk⟩, .inl (by have := k2.lt (fun e => by rw [e] at hb; cases hb) x hx; omega)⟩⟩
end
theorem mopen_ok (p : Nat) (ao : Option Addr) (c : Nat) (im : List UInt8) (fr to : Int) (W : World) (ht : TbV W.heap p) (hv : Vw b8 W.heap ao c im) (hb : im.length ≤ 140737488355328) :
    Calls Try.prog 28 [.pointer (some ⟨p, 0, none⟩), .slice ao im.length c, .int .i64 fr, .int .i64 to].toArray W (Ret fun v w' => ∃ g, v = .pointer (some ⟨g, 0, none⟩) ∧ W.heap.size ≤ g ∧ MrO (fun k => W.heap.size ≤ k) w'.heap g p im fr to ∧ Foot nob W w') := by
  refine calls_of_sc 17 [(0, _), (1, _), (2, _), (3, _)] Try.func28 rfl rfl rfl (enter_slots ⟨rfl, rfl, rfl, rfl, trivial⟩) ?_
  refine Sc.seq ?_
  refine Sc.region ?_
  refine Sl.calm (Cm.assign rfl) rfl ?_
  refine Sl.nil ?_
  refine At.go ?_
  refine Sc.seq ?_
  refine Sc.region ?_
  refine Sl.calm (Cm.move rfl) rfl ?_
  refine Sl.calm (Cm.move rfl) rfl ?_
  refine Sl.call fn60 rfl (sclone_ok ao c im W hv hb) rfl ?_
  rintro _ w1 ⟨o1, c1, rfl, ho1, hfr1, hf1⟩
  have hz1 := hf1.size
  refine Sl.calm (Cm.move rfl) rfl ?_
  refine Sl.calm (Cm.move rfl) rfl ?_
  refine Sl.makeMap (enc := enI) rfl ?_
  intro w2 hm2 hs2 hf2
  refine Sl.calm (Cm.build (cs := #[.pointer (some ⟨p, 0, none⟩), .slice o1 im.length c1, .int .i64 fr, .int .i64 to, .map (some w1.heap.size)]) plc111 zc111 rfl (by kernel_rfl)) rfl ?_
  refine Sl.box rfl rfl ?_
  intro w3 hg3 hs3 hf3
  refine Sl.calm (Cm.assign rfl) rfl ?_
  refine Sl.nil ?_
  refine At.weak [(0, _), (1, _), (2, _), (3, _), (8, _)] ⟨rfl, rfl, rfl, rfl, rfl, trivial⟩ ?_
  refine At.go ?_
  refine Sc.ret ?_
  refine At.ret1 rfl rfl ?_
  have hpl := (Array.getElem?_eq_some_iff.1 ht).1
  have hF := (hf1.trans hf2).trans hf3
  exact ⟨_, rfl, _, rfl, by omega, ⟨o1, c1, w1.heap.size, [], hg3, (ho1.grow hf2).grow hf3, hm2.keep hf3 id, (fun a v h => by cases h), (by show W.heap.size ≤ _; omega), hz1, (fun k ⟨a, ha, hk⟩ => by have := hfr1 a ha; show W.heap.size ≤ k; omega), hF.obj ht id, (by show ¬ W.heap.size ≤ p; omega)⟩, hF⟩
theorem mmay_ok (D : Nat → Prop) (g p : Nat) (im : List UInt8) (fr to : Int) (W : World) (hM : MrO D W.heap g p im fr to) :
    Calls Try.prog 89 [.pointer (some ⟨g, 0, none⟩)].toArray W (Ret fun v w' => v = .bool (mayS im fr to) ∧ Foot nob W w') := by
  obtain ⟨io, ic, gm, m, hg, h1, h2, h3, h4, h5, h6, h7, h8⟩ := hM
  refine calls_of_sc 31 [(0, _)] Try.func89 rfl rfl rfl (enter_slots ⟨rfl, trivial⟩) ?_
  refine Sc.seq ?_
  refine Sc.region ?_
  refine Sl.calm (Cm.assign rfl) rfl ?_
  refine Sl.nil ?_
  refine At.go ?_
  refine Sc.seq ?_
  refine Sc.quiet 29 [0, 1, 2, 3, 4, 5, 6, 7, 8, 9, 10, 11, 12, 13, 14, 15, 16, 17, 18, 19, 20, 21, 22, 23, 24, 25, 26, 27, 28] mixed (by kernel_rfl) ?_
  refine Sx.calm rfl rfl (Cm.move rfl) rfl ?_
  refine Sx.calm rfl rfl (Cm.nilCheck rfl) rfl ?_
  refine Sx.calm rfl rfl (Cm.field fld111_2 rfl) rfl ?_
  refine Sx.calm rfl rfl (Cm.ld sca3 rfl (cellF hg rfl)) rfl ?_
  refine Sx.fork rfl rfl (Cm.geq rfl rfl) rfl (fun h7 => ?_) (fun h7 => ?_)
  ·
    refine Sx.calm rfl rfl (Cm.move rfl) rfl ?_
    refine Sx.want rfl rfl rfl rfl (Cm.move rfl) rfl ?_
    refine Sx.want rfl rfl rfl rfl (Cm.nilCheck rfl) rfl ?_
    refine Sx.want rfl rfl rfl rfl (Cm.field fld111_2 rfl) rfl ?_
    refine Sx.want rfl rfl rfl rfl (Cm.ld sca3 rfl (cellF hg rfl)) rfl ?_
    refine Sx.want rfl rfl rfl rfl (Cm.move rfl) rfl ?_
    refine Sx.want rfl rfl rfl rfl (Cm.nilCheck rfl) rfl ?_
    refine Sx.want rfl rfl rfl rfl (Cm.field fld111_3 rfl) rfl ?_
    refine Sx.want rfl rfl rfl rfl (Cm.ld sca3 rfl (cellF hg rfl)) rfl ?_
    refine Sx.forkWant rfl rfl rfl rfl (Cm.leq rfl rfl) rfl (fun h17 => ?_) (fun h17 => ?_)
    ·
      refine Sx.calm rfl rfl (Cm.pick_t rfl rfl) rfl ?_
      refine Sx.calm rfl rfl (Cm.move rfl) rfl ?_
      refine Sx.want rfl rfl rfl rfl (Cm.move rfl) rfl ?_
      refine Sx.want rfl rfl rfl rfl (Cm.nilCheck rfl) rfl ?_
      refine Sx.want rfl rfl rfl rfl (Cm.field fld111_3 rfl) rfl ?_
      refine Sx.want rfl rfl rfl rfl (Cm.ld sca3 rfl (cellF hg rfl)) rfl ?_
      refine Sx.want rfl rfl rfl rfl (Cm.move rfl) rfl ?_
      refine Sx.want rfl rfl rfl rfl (Cm.nilCheck rfl) rfl ?_
      refine Sx.want rfl rfl rfl rfl (Cm.field fld111_1 rfl) rfl ?_
      refine Sx.want rfl rfl rfl rfl (Cm.ld sca25 rfl (cellF hg rfl)) rfl ?_
      refine Sx.want rfl rfl rfl rfl (Cm.len sl25 rfl) rfl ?_
      refine Sx.forkWant rfl rfl rfl rfl (Cm.leq rfl rfl) rfl (fun h29 => ?_) (fun h29 => ?_)
      ·
        refine Sx.calm rfl rfl (Cm.pick_t rfl rfl) rfl ?_
        refine Sx.calm rfl rfl (Cm.assign rfl) rfl ?_
        refine Sx.nil ?_
        refine At.weak [(0, _), (2, _)] ⟨rfl, rfl, trivial⟩ ?_
        refine At.go ?_
        refine Sc.ret ?_
        refine At.ret1 rfl rfl ?_
        refine ⟨_, rfl, congrArg Value.bool (mayS_eq ⟨fun h => ?_, fun h => ?_⟩), (Foot.refl _ _).draws 1⟩
        · first
          | omega
          | exact absurd h (by decide)
        · first
          | rfl
          | exact absurd h (by omega)
      ·
        refine Sx.calm rfl rfl (Cm.pick_t rfl rfl) rfl ?_
        refine Sx.calm rfl rfl (Cm.assign rfl) rfl ?_
        refine Sx.nil ?_
        refine At.weak [(0, _), (2, _)] ⟨rfl, rfl, trivial⟩ ?_
        refine At.go ?_
        refine Sc.ret ?_
        refine At.ret1 rfl rfl ?_
        refine ⟨_, rfl, congrArg Value.bool (mayS_eq ⟨fun h => ?_, fun h => ?_⟩), (Foot.refl _ _).draws 1⟩
        · first
          | omega
          | exact absurd h (by decide)
        · first
          | rfl
          | exact absurd h (by omega)
    ·
      refine Sx.calm rfl rfl (Cm.pick_t rfl rfl) rfl ?_
      refine Sx.calm rfl rfl (Cm.move rfl) rfl ?_
      refine Sx.skip rfl rfl rfl rfl rfl rfl ?_
      refine Sx.skip rfl rfl rfl rfl rfl rfl ?_
      refine Sx.skip rfl rfl rfl rfl rfl rfl ?_
      refine Sx.skip rfl rfl rfl rfl rfl rfl ?_
      refine Sx.skip rfl rfl rfl rfl rfl rfl ?_
      refine Sx.skip rfl rfl rfl rfl rfl rfl ?_
      refine Sx.skip rfl rfl rfl rfl rfl rfl ?_
      refine Sx.skip rfl rfl rfl rfl rfl rfl ?_
      refine Sx.skip rfl rfl rfl rfl rfl rfl ?_
      refine Sx.skip rfl rfl rfl rfl rfl rfl ?_
      refine Sx.calm rfl rfl (Cm.pick_f rfl rfl) rfl ?_
      refine Sx.calm rfl rfl (Cm.assign rfl) rfl ?_
      refine Sx.nil ?_
      refine At.weak [(0, _), (2, _)] ⟨rfl, rfl, trivial⟩ ?_
      refine At.go ?_
      refine Sc.ret ?_
      refine At.ret1 rfl rfl ?_
      refine ⟨_, rfl, congrArg Value.bool (mayS_eq ⟨fun h => ?_, fun h => ?_⟩), (Foot.refl _ _).draws 1⟩
      · first
        | omega
        | exact absurd h (by decide)
      · first
        | rfl
        | exact absurd h (by omega)
  ·
    refine Sx.calm rfl rfl (Cm.move rfl) rfl ?_
    refine Sx.skip rfl rfl rfl rfl rfl rfl ?_
    refine Sx.skip rfl rfl rfl rfl rfl rfl ?_
    refine Sx.skip rfl rfl rfl rfl rfl rfl ?_
    refine Sx.skip rfl rfl rfl rfl rfl rfl ?_
    refine Sx.skip rfl rfl rfl rfl rfl rfl ?_
    refine Sx.skip rfl rfl rfl rfl rfl rfl ?_
    refine Sx.skip rfl rfl rfl rfl rfl rfl ?_
    refine Sx.skip rfl rfl rfl rfl rfl rfl ?_
    refine Sx.skip rfl rfl rfl rfl rfl rfl ?_
    refine Sx.calm rfl rfl (Cm.pick_f rfl rfl) rfl ?_
    refine Sx.calm rfl rfl (Cm.move rfl) rfl ?_
    refine Sx.skip rfl rfl rfl rfl rfl rfl ?_
    refine Sx.skip rfl rfl rfl rfl rfl rfl ?_
    refine Sx.skip rfl rfl rfl rfl rfl rfl ?_
    refine Sx.skip rfl rfl rfl rfl rfl rfl ?_
    refine Sx.skip rfl rfl rfl rfl rfl rfl ?_
    refine Sx.skip rfl rfl rfl rfl rfl rfl ?_
    refine Sx.skip rfl rfl rfl rfl rfl rfl ?_
    refine Sx.skip rfl rfl rfl rfl rfl rfl ?_
    refine Sx.skip rfl rfl rfl rfl rfl rfl ?_
    refine Sx.skip rfl rfl rfl rfl rfl rfl ?_
    refine Sx.calm rfl rfl (Cm.pick_f rfl rfl) rfl ?_
    refine Sx.calm rfl rfl (Cm.assign rfl) rfl ?_
    refine Sx.nil ?_
    refine At.weak [(0, _), (2, _)] ⟨rfl, rfl, trivial⟩ ?_
    refine At.go ?_
    refine Sc.ret ?_
    refine At.ret1 rfl rfl ?_
    refine ⟨_, rfl, congrArg Value.bool (mayS_eq ⟨fun h => ?_, fun h => ?_⟩), (Foot.refl _ _).draws 1⟩
    · first
      | omega
      | exact absurd h (by decide)
    · first
      | rfl
      | exact absurd h (by omega)
def HoP (D : Nat → Prop) (r : Option (List UInt8 × Int)) (v : Value) (H : Array Obj) : Prop := match r with
  | none => v = .tuple #[held0, .bool false]
  | some (b, nx) => ∃ bo bc, v = .tuple #[.agg (hvC bo b.length bc nx).toArray, .bool true] ∧ Vw b8 H bo bc b ∧ ∀ k, blk bo k → D k
theorem HmV.snoc {D : Nat → Prop} {H : Array Obj} {im : List UInt8} {fr to nx : Int} {a : I6} {m : List (I6 × Value)} {bo : Option Addr} {bc : Nat} {b : List UInt8} (h : HmV D H im fr to m) (hh : holdsS im fr to a.1 = some (b, nx)) (hv : Vw b8 H bo bc b) (hD : ∀ k, blk bo k → D k) :
    HmV D H im fr to (setM m a (.agg (hvC bo b.length bc nx).toArray)) := fun x y hxy => by
  rcases setM_mem hxy with ⟨rfl, rfl⟩ | hm
  · exact ⟨bo, bc, b, nx, rfl, hh, hv, hD⟩
  · exact h x y hm

/-- .. a frame more is known -/
theorem mr_more {D : Nat → Prop} {W w' : World} {g p gm r : Nat} {im : List UInt8} {fr to nx : Int} {io bo : Option Addr} {ic bc : Nat} {b : List UInt8} {m : List (I6 × Value)} {a : I6}
    (hD : ∀ k, W.heap.size ≤ k → D k) (hg : W.heap[g]? = some (.cells (mrC p io im.length ic fr to gm).toArray 111 (0, 0))) (h1 : Own b8 5 W.heap io ic im) (h2 : MapL enI W.heap gm m) (h3 : HmV D W.heap im fr to m) (h4 : D g) (h5 : D gm) (h6 : ∀ k, blk io k → D k) (h7 : TbV W.heap p) (h8 : ¬ D p)
    (hF : Foot (fun k => k = gm ∨ k = r) W w') (hr : W.heap.size ≤ r) (hm : MapL enI w'.heap gm (setM m a (.agg (hvC bo b.length bc nx).toArray))) (hh : holdsS im fr to a.1 = some (b, nx)) (hb : Vw b8 w'.heap bo bc b) (hfr : Fr W.heap.size bo) :
    MrO D w'.heap g p im fr to ∧ Foot D W w' := by
  have hgl := (Array.getElem?_eq_some_iff.1 hg).1
  have hpl := (Array.getElem?_eq_some_iff.1 h7).1
  have hn : ∀ k, k < W.heap.size → k ≠ gm → ¬ (k = gm ∨ k = r) := fun k hk hk2 h => by rcases h with h | h; exact hk2 h; omega
  refine ⟨⟨io, ic, gm, _, hF.obj hg (hn g hgl (obj_neMap h2 hg)), h1.keep hF (fun x hx => hn _ (h1.lt x hx) (h1.neMap h2 x hx)), hm, HmV.snoc (fun x v hx => ?_) hh hb (fun k ⟨x, hx, hk⟩ => hD k (by have := hfr x hx; omega)), h4, h5, h6, hF.obj h7 (hn p hpl (fun e => h8 (e ▸ h5))), h8⟩, hF.mono (fun k hk => by rcases hk with rfl | rfl; exact h5; exact hD _ hr)⟩
  obtain ⟨bo', bc', b', nx', e, k1, k2, k3⟩ := h3 x v hx
  have hb' : b' ≠ [] := fun e => by have := (holdsS_some k1).2.2.2.2.2.2.1; rw [e] at this; cases this
  exact ⟨bo', bc', b', nx', e, k1, k2.keep hF (fun y hy => hn _ (k2.lt hb' y hy) (k2.neMap h2 hb' y hy)), k3⟩

set_option maxHeartbeats 4000000 in
theorem mholds_ok (D : Nat → Prop) (g p : Nat) (im : List UInt8) (fr to a : Int) (W : World) (hM : MrO D W.heap g p im fr to) (hD : ∀ k, W.heap.size ≤ k → D k) (hmay : mayS im fr to = true) (him : im.length ≤ 1099511627776) (ha : 0 ≤ a ∧ a ≤ 9223372036854775807) :
    Calls Try.prog 90 [.pointer (some ⟨g, 0, none⟩), .int .i64 a].toArray W (Ret fun v w' => HoP D (holdsS im fr to a) v w'.heap ∧ MrO D w'.heap g p im fr to ∧ Foot D W w') := by
  have hM0 := hM
  have hgl := hM.lt
  obtain ⟨io, ic, gm, m, hg, h1, h2, h3, h4, h5, h6, h7, h8⟩ := hM
  obtain ⟨hm1, hm2, hm3⟩ : 0 ≤ fr ∧ fr ≤ to ∧ to ≤ im.length := by
    unfold mayS at hmay
    simp only [Bool.and_eq_true, decide_eq_true_eq] at hmay; omega
  have hgml := h2.obj
  refine calls_of_sc 85 [(0, _), (1, _)] Try.func90 rfl rfl rfl (enter_slots ⟨rfl, rfl, trivial⟩) ?_
  refine Sc.seq ?_
  refine Sc.region ?_
  refine Sl.allocC zc142 rfl ?_
  intro w1 hg1 hs1 hf1
  refine Sl.calm (Cm.assign rfl) rfl ?_
  refine Sl.nil ?_
  refine At.go ?_
  refine Sc.seq ?_
  refine Sc.seq ?_
  refine Sc.region ?_
  refine Sl.calm (Cm.move rfl) rfl ?_
  refine Sl.calm (Cm.nilCheck rfl) rfl ?_
  refine Sl.calm (Cm.field fld111_4 rfl) rfl ?_
  refine Sl.calm (Cm.ld sca109 rfl (cellF (hf1.obj hg id) rfl)) rfl ?_
  refine Sl.calm (Cm.move rfl) rfl ?_
  refine Sl.calm (Cm.lookupOk mpH (a := (⟨a, by omega⟩ : I6)) keyI rfl rfl (fun _ e => by rw [e]; exact (h2.keep hf1 id))) rfl ?_
  refine Sl.calm (Cm.move rfl) rfl ?_
  refine Sl.calm (Cm.extract rfl rfl) rfl ?_
  refine Sl.fork (Cm.ofBool (Cm.extract rfl rfl)) rfl (fun h20 => ?_) (fun h20 => ?_)
  ·
    obtain ⟨v, hv⟩ := Option.isSome_iff_exists.1 (of_decide_eq_true h20)
    rw [hv]
    obtain ⟨bo, bc, b, nx, rfl, k1, k2, k3⟩ := h3 _ v (getM_mem hv)
    refine Sl.allocC zc142 rfl ?_
    intro w2 hg2 hs2 hf2
    refine Sl.storeAll (vs := (hvC bo b.length bc nx)) agg142 rfl rfl (hvC_one _ _ _ _) hg2 rfl ?_
    intro w3 hg3 hs3 hf3
    have hF13 : Foot nob w1 w3 := hf2.trans_to hf3 (fun k hk => .inr (by have h : k = w1.heap.size := hk; omega))
    have hF3 := hf1.trans hF13
    have hgr := hF13.obj hg1 id
    have hgg := hF3.obj hg id
    refine Sl.calm (Cm.assign rfl) rfl ?_
    refine Sl.nil ?_
    refine At.weak [(0, _), (1, _), (4, _), (5, _), (6, _), (7, _)] ⟨rfl, rfl, rfl, rfl, rfl, rfl, trivial⟩ ?_
    refine At.go ?_
    refine Sc.seq ?_
    refine Sc.region ?_
    refine Sl.calm (Cm.move rfl) rfl ?_
    refine Sl.nil ?_
    refine At.go ?_
    refine Sc.cond_t rfl ?_
    refine Sc.seq ?_
    refine Sc.region ?_
    refine Sl.calm (Cm.ldM (cs := hvC bo b.length bc nx) agg142 rfl (fun j v hj => cellF hg3 hj)) rfl ?_
    refine Sl.storeAll (vs := (hvC bo b.length bc nx)) agg142 rfl rfl (hvC_one _ _ _ _) hgr rfl ?_
    intro w4 hg4 hs4 hf4
    have hF4 : Foot nob W w4 := hF3.trans_to hf4 (fun k hk => .inr (by have h : k = W.heap.size := hk; omega))
    refine Sl.calm (Cm.assign rfl) rfl ?_
    refine Sl.nil ?_
    refine At.weak [(0, _), (1, _), (4, _), (5, _), (6, _), (7, _), (21, _)] ⟨rfl, rfl, rfl, rfl, rfl, rfl, rfl, trivial⟩ ?_
    refine At.go ?_
    refine Sc.ret ?_
    refine At.then_ret ?_
    refine At.retC (cs := hvC bo b.length bc nx) rfl agg142 rfl rfl (fun j v hj => cellF hg4 hj) ?_
    first
      | exact ⟨_, rfl, by rw [k1]; exact ⟨bo, bc, rfl, k2.grow hF4, k3⟩, hM0.grow hF4, hF4.any⟩
      | exact ⟨_, rfl, by rw [hn]; exact rfl, hM0.grow hF4, hF4.any⟩
      | exact ⟨_, rfl, by rw [hho]; exact rfl, hM0.grow hF4, hF4.any⟩
      | (have hz8 := hf8.size
         have hF79 : Foot (fun k => k = gm ∨ k = W.heap.size) w7 w9 := (hf8.mono (fun k h => .inl h)).trans (hf9.mono (fun k h => .inr h))
         have ho9 := (ho7.keep hf8 (ho7.neMap hm7)).keep hf9 (fun x hx h => by have := hfr5 x hx; have h : x.block = W.heap.size := h; omega)
         obtain ⟨hM9, hF9⟩ := mr_more (a := ⟨a, by omega⟩) (r := W.heap.size) hD hg h1 h2 h3 h4 h5 h6 h7 h8 (hF7.any.trans hF79) (Nat.le_refl _) (hm8.keep hf9 (by omega)) hho ho9.vw (hfr5.mono hz3)
         exact ⟨_, rfl, by rw [hho]; exact ⟨o5, c5, rfl, ho9.vw, fun k ⟨x, hx, hk⟩ => hD k (by have := hfr5 x hx; omega)⟩, hM9, hF9⟩)
  ·
    have hv : getM m (⟨a, by omega⟩ : I6) = none := by simpa using h20
    rw [hv]
    refine Sl.allocC zc142 rfl ?_
    intro w2 hg2 hs2 hf2
    refine Sl.storeAll (vs := (hvC none 0 0 0)) agg142 rfl rfl (hvC_one _ _ _ _) hg2 rfl ?_
    intro w3 hg3 hs3 hf3
    have hF13 : Foot nob w1 w3 := hf2.trans_to hf3 (fun k hk => .inr (by have h : k = w1.heap.size := hk; omega))
    have hF3 := hf1.trans hF13
    have hgr := hF13.obj hg1 id
    have hgg := hF3.obj hg id
    refine Sl.calm (Cm.assign rfl) rfl ?_
    refine Sl.nil ?_
    refine At.weak [(0, _), (1, _), (4, _), (5, _), (6, _), (7, _)] ⟨rfl, rfl, rfl, rfl, rfl, rfl, trivial⟩ ?_
    refine At.go ?_
    refine Sc.seq ?_
    refine Sc.region ?_
    refine Sl.calm (Cm.move rfl) rfl ?_
    refine Sl.nil ?_
    refine At.go ?_
    refine Sc.cond_f rfl ?_
    refine Sc.skip ?_
    refine At.go ?_
    refine Sc.seq ?_
    refine Sc.seq ?_
    refine Sc.quiet 11 [0, 1, 2, 3, 4, 5, 6, 7, 8, 9, 10] mixed (by kernel_rfl) ?_
    refine Sx.calm rfl rfl (Cm.move rfl) rfl ?_
    refine Sx.calm rfl rfl (Cm.move rfl) rfl ?_
    refine Sx.calm rfl rfl (Cm.nilCheck rfl) rfl ?_
    refine Sx.calm rfl rfl (Cm.field fld111_3 rfl) rfl ?_
    refine Sx.calm rfl rfl (Cm.ld sca3 rfl (cellF hgg rfl)) rfl ?_
    refine Sx.calm rfl rfl (Cm.move rfl) rfl ?_
    refine Sx.calm rfl rfl (Cm.nilCheck rfl) rfl ?_
    refine Sx.calm rfl rfl (Cm.field fld111_2 rfl) rfl ?_
    refine Sx.calm rfl rfl (Cm.ld sca3 rfl (cellF hgg rfl)) rfl ?_
    refine Sx.calm rfl rfl (Cm.sub64 rfl rfl (by omega)) rfl ?_
    refine Sx.fork rfl rfl (Cm.gtr rfl rfl) rfl (fun h33 => ?_) (fun h33 => ?_)
    ·
      have hn : holdsS im fr to a = none := by unfold holdsS; rw [if_pos (by omega)]
      refine Sx.nil ?_
      refine At.weak [(0, _), (1, _), (4, _), (5, _), (6, _), (7, _), (21, _), (33, _)] ⟨rfl, rfl, rfl, rfl, rfl, rfl, rfl, rfl, trivial⟩ ?_
      refine At.go ?_
      refine Sc.cond_t rfl ?_
      refine Sc.seq ?_
      refine Sc.region ?_
      refine Sl.calm (Cm.build (cs := #[.slice none 0 0, .int .i64 0]) plc142 zc142 rfl (by kernel_rfl)) rfl ?_
      refine Sl.storeAll (vs := (hvC none 0 0 0)) agg142 rfl rfl (hvC_one _ _ _ _) hgr rfl ?_
      intro w4 hg4 hs4 hf4
      have hf4 := hf4.undraw
      have hF4 : Foot nob W w4 := hF3.trans_to hf4 (fun k hk => .inr (by have h : k = W.heap.size := hk; omega))
      refine Sl.calm (Cm.assign rfl) rfl ?_
      refine Sl.nil ?_
      refine At.weak [(0, _), (1, _), (4, _), (5, _), (6, _), (7, _), (21, _), (33, _)] ⟨rfl, rfl, rfl, rfl, rfl, rfl, rfl, rfl, trivial⟩ ?_
      refine At.go ?_
      refine Sc.ret ?_
      refine At.then_ret ?_
      refine At.retC (cs := hvC none 0 0 0) rfl agg142 rfl rfl (fun j v hj => cellF hg4 hj) ?_
      first
        | exact ⟨_, rfl, by rw [k1]; exact ⟨bo, bc, rfl, k2.grow hF4, k3⟩, hM0.grow hF4, hF4.any⟩
        | exact ⟨_, rfl, by rw [hn]; exact rfl, hM0.grow hF4, hF4.any⟩
        | exact ⟨_, rfl, by rw [hho]; exact rfl, hM0.grow hF4, hF4.any⟩
        | (have hz8 := hf8.size
           have hF79 : Foot (fun k => k = gm ∨ k = W.heap.size) w7 w9 := (hf8.mono (fun k h => .inl h)).trans (hf9.mono (fun k h => .inr h))
           have ho9 := (ho7.keep hf8 (ho7.neMap hm7)).keep hf9 (fun x hx h => by have := hfr5 x hx; have h : x.block = W.heap.size := h; omega)
           obtain ⟨hM9, hF9⟩ := mr_more (a := ⟨a, by omega⟩) (r := W.heap.size) hD hg h1 h2 h3 h4 h5 h6 h7 h8 (hF7.any.trans hF79) (Nat.le_refl _) (hm8.keep hf9 (by omega)) hho ho9.vw (hfr5.mono hz3)
           exact ⟨_, rfl, by rw [hho]; exact ⟨o5, c5, rfl, ho9.vw, fun k ⟨x, hx, hk⟩ => hD k (by have := hfr5 x hx; omega)⟩, hM9, hF9⟩)
    ·
      refine Sx.nil ?_
      refine At.weak [(0, _), (1, _), (4, _), (5, _), (6, _), (7, _), (21, _), (33, _)] ⟨rfl, rfl, rfl, rfl, rfl, rfl, rfl, rfl, trivial⟩ ?_
      refine At.go ?_
      refine Sc.cond_f rfl ?_
      refine Sc.skip ?_
      refine At.go ?_
      refine Sc.seq ?_
      refine Sc.draw 22 (fun H => H[g]? = some (.cells (mrC p io im.length ic fr to gm).toArray 111 (0, 0))) [14] [0, 1, 2, 3, 4, 5, 6, 7, 8, 9, 10, 11, 12, 13, 14, 15, 16, 17, 18, 19, 20, 21] mixed (by kernel_rfl) (hgg) ?_
      refine Sx.calm rfl rfl (Cm.move rfl) rfl ?_
      refine Sx.calm rfl rfl (Cm.nilCheck rfl) rfl ?_
      refine Sx.calm rfl rfl (Cm.field fld111_0 rfl) rfl ?_
      refine Sx.calm rfl rfl (Cm.load sca46 rfl (fun H hH => cellF hH rfl)) rfl ?_
      refine Sx.calm rfl rfl (Cm.move rfl) rfl ?_
      refine Sx.calm rfl rfl (Cm.nilCheck rfl) rfl ?_
      refine Sx.calm rfl rfl (Cm.field fld111_1 rfl) rfl ?_
      refine Sx.calm rfl rfl (Cm.load sca25 rfl (fun H hH => cellF hH rfl)) rfl ?_
      refine Sx.calm rfl rfl (Cm.move rfl) rfl ?_
      refine Sx.calm rfl rfl (Cm.nilCheck rfl) rfl ?_
      refine Sx.calm rfl rfl (Cm.field fld111_2 rfl) rfl ?_
      refine Sx.calm rfl rfl (Cm.load sca3 rfl (fun H hH => cellF hH rfl)) rfl ?_
      refine Sx.calm rfl rfl (Cm.move rfl) rfl ?_
      refine Sx.calm rfl rfl (Cm.add64 rfl rfl (by omega)) rfl ?_
      refine Sx.eff rfl rfl (Sl.call fn103 rfl (ftake_ok p io ic im (fr + a) _ (hF3.obj h7 id) ((h1.grow hF3).vw) him (by omega)) rfl ?_)
      rintro _ w5 ⟨o5, c5, rfl, ho5, hfr5, hf5⟩
      refine Sx.on (by exact hf5.undraw.undraw.obj hgg id) ?_
      have hfr5 : Fr w3.heap.size o5 := hfr5
      have hf5 := hf5.undraw.undraw
      have hF5 := hF3.trans hf5
      have hz5 := hF5.size
      have hz3 := hF3.size
      have hg5 := hf5.obj hgg id
      have hgr5 := hf5.obj hgr id
      obtain ⟨t, hT⟩ : ∃ t, t = takeS im (fr + a) := ⟨_, rfl⟩
      rw [← hT]
      rw [← hT] at ho5
      have hho : holdsS im fr to a = if t.2.2 ≠ 0 ∨ to < t.2.1 ∨ t.1.length = 0 then none else some (t.1, t.2.1 - fr) := by unfold holdsS; rw [if_neg (by omega), ← hT]
      have htk := takeS_ok (im := im) (a := fr + a)
      rw [← hT] at htk
      refine Sx.calm rfl rfl (Cm.move rfl) rfl ?_
      refine Sx.calm rfl rfl (Cm.extract rfl rfl) rfl ?_
      refine Sx.calm rfl rfl (Cm.extract rfl rfl) rfl ?_
      refine Sx.calm rfl rfl (Cm.extract rfl rfl) rfl ?_
      refine Sx.calm rfl rfl (Cm.assign rfl) rfl ?_
      refine Sx.calm rfl rfl (Cm.assign rfl) rfl ?_
      refine Sx.calm rfl rfl (Cm.assign rfl) rfl ?_
      refine Sx.nil ?_
      refine At.weak [(0, _), (1, _), (4, _), (5, _), (6, _), (7, _), (8, _), (9, _), (10, _), (21, _), (33, _)] ⟨rfl, rfl, rfl, rfl, rfl, rfl, rfl, rfl, rfl, rfl, rfl, trivial⟩ ?_
      refine At.go ?_
      refine Sc.seq ?_
      refine Sc.seq ?_
      refine Sc.region ?_
      refine Sl.calm (Cm.move rfl) rfl ?_
      refine Sl.fork (Cm.neq rfl rfl) rfl (fun h55 => ?_) (fun h55 => ?_)
      ·
        rw [if_pos (.inl h55)] at hho
        refine Sl.calm (Cm.move rfl) rfl ?_
        refine Sl.skip rfl rfl rfl rfl ?_
        refine Sl.skip rfl rfl rfl rfl ?_
        refine Sl.skip rfl rfl rfl rfl ?_
        refine Sl.skip rfl rfl rfl rfl ?_
        refine Sl.skip rfl rfl rfl rfl ?_
        refine Sl.skip rfl rfl rfl rfl ?_
        refine Sl.calm (Cm.pick_t rfl rfl) rfl ?_
        refine Sl.calm (Cm.move rfl) rfl ?_
        refine Sl.skip rfl rfl rfl rfl ?_
        refine Sl.skip rfl rfl rfl rfl ?_
        refine Sl.skip rfl rfl rfl rfl ?_
        refine Sl.calm (Cm.pick_t rfl rfl) rfl ?_
        refine Sl.nil ?_
        refine At.weak [(0, _), (1, _), (4, _), (5, _), (6, _), (7, _), (8, _), (9, _), (10, _), (21, _), (33, _), (68, _)] ⟨rfl, rfl, rfl, rfl, rfl, rfl, rfl, rfl, rfl, rfl, rfl, rfl, trivial⟩ ?_
        refine At.go ?_
        refine Sc.cond_t rfl ?_
        refine Sc.seq ?_
        refine Sc.region ?_
        refine Sl.calm (Cm.build (cs := #[.slice none 0 0, .int .i64 0]) plc142 zc142 rfl (by kernel_rfl)) rfl ?_
        refine Sl.storeAll (vs := (hvC none 0 0 0)) agg142 rfl rfl (hvC_one _ _ _ _) hgr5 rfl ?_
        intro w4 hg4 hs4 hf4
        have hF4 : Foot nob W w4 := hF5.trans_to hf4 (fun k hk => .inr (by have h : k = W.heap.size := hk; omega))
        refine Sl.calm (Cm.assign rfl) rfl ?_
        refine Sl.nil ?_
        refine At.weak [(0, _), (1, _), (4, _), (5, _), (6, _), (7, _), (8, _), (9, _), (10, _), (21, _), (33, _), (68, _)] ⟨rfl, rfl, rfl, rfl, rfl, rfl, rfl, rfl, rfl, rfl, rfl, rfl, trivial⟩ ?_
        refine At.go ?_
        refine Sc.ret ?_
        refine At.then_ret ?_
        refine At.retC (cs := hvC none 0 0 0) rfl agg142 rfl rfl (fun j v hj => cellF hg4 hj) ?_
        first
          | exact ⟨_, rfl, by rw [k1]; exact ⟨bo, bc, rfl, k2.grow hF4, k3⟩, hM0.grow hF4, hF4.any⟩
          | exact ⟨_, rfl, by rw [hn]; exact rfl, hM0.grow hF4, hF4.any⟩
          | exact ⟨_, rfl, by rw [hho]; exact rfl, hM0.grow hF4, hF4.any⟩
          | (have hz8 := hf8.size
             have hF79 : Foot (fun k => k = gm ∨ k = W.heap.size) w7 w9 := (hf8.mono (fun k h => .inl h)).trans (hf9.mono (fun k h => .inr h))
             have ho9 := (ho7.keep hf8 (ho7.neMap hm7)).keep hf9 (fun x hx h => by have := hfr5 x hx; have h : x.block = W.heap.size := h; omega)
             obtain ⟨hM9, hF9⟩ := mr_more (a := ⟨a, by omega⟩) (r := W.heap.size) hD hg h1 h2 h3 h4 h5 h6 h7 h8 (hF7.any.trans hF79) (Nat.le_refl _) (hm8.keep hf9 (by omega)) hho ho9.vw (hfr5.mono hz3)
             exact ⟨_, rfl, by rw [hho]; exact ⟨o5, c5, rfl, ho9.vw, fun k ⟨x, hx, hk⟩ => hD k (by have := hfr5 x hx; omega)⟩, hM9, hF9⟩)
      ·
        have he : t.2.2 = 0 := Decidable.not_not.1 h55
        have htk := htk he
        refine Sl.calm (Cm.move rfl) rfl ?_
        refine Sl.want rfl rfl (Cm.move rfl) rfl ?_
        refine Sl.want rfl rfl (Cm.move rfl) rfl ?_
        refine Sl.want rfl rfl (Cm.nilCheck rfl) rfl ?_
        refine Sl.want rfl rfl (Cm.field fld111_3 rfl) rfl ?_
        refine Sl.want rfl rfl (Cm.ld sca3 rfl (cellF hg5 rfl)) rfl ?_
        refine Sl.forkWant rfl rfl (Cm.gtr rfl rfl) rfl (fun h62 => ?_) (fun h62 => ?_)
        ·
          rw [if_pos (.inr (.inl h62))] at hho
          refine Sl.calm (Cm.pick_f rfl rfl) rfl ?_
          refine Sl.calm (Cm.move rfl) rfl ?_
          refine Sl.skip rfl rfl rfl rfl ?_
          refine Sl.skip rfl rfl rfl rfl ?_
          refine Sl.skip rfl rfl rfl rfl ?_
          refine Sl.calm (Cm.pick_t rfl rfl) rfl ?_
          refine Sl.nil ?_
          refine At.weak [(0, _), (1, _), (4, _), (5, _), (6, _), (7, _), (8, _), (9, _), (10, _), (21, _), (33, _), (68, _)] ⟨rfl, rfl, rfl, rfl, rfl, rfl, rfl, rfl, rfl, rfl, rfl, rfl, trivial⟩ ?_
          refine At.go ?_
          refine Sc.cond_t rfl ?_
          refine Sc.seq ?_
          refine Sc.region ?_
          refine Sl.calm (Cm.build (cs := #[.slice none 0 0, .int .i64 0]) plc142 zc142 rfl (by kernel_rfl)) rfl ?_
          refine Sl.storeAll (vs := (hvC none 0 0 0)) agg142 rfl rfl (hvC_one _ _ _ _) hgr5 rfl ?_
          intro w4 hg4 hs4 hf4
          have hF4 : Foot nob W w4 := hF5.trans_to hf4 (fun k hk => .inr (by have h : k = W.heap.size := hk; omega))
          refine Sl.calm (Cm.assign rfl) rfl ?_
          refine Sl.nil ?_
          refine At.weak [(0, _), (1, _), (4, _), (5, _), (6, _), (7, _), (8, _), (9, _), (10, _), (21, _), (33, _), (68, _)] ⟨rfl, rfl, rfl, rfl, rfl, rfl, rfl, rfl, rfl, rfl, rfl, rfl, trivial⟩ ?_
          refine At.go ?_
          refine Sc.ret ?_
          refine At.then_ret ?_
          refine At.retC (cs := hvC none 0 0 0) rfl agg142 rfl rfl (fun j v hj => cellF hg4 hj) ?_
          first
            | exact ⟨_, rfl, by rw [k1]; exact ⟨bo, bc, rfl, k2.grow hF4, k3⟩, hM0.grow hF4, hF4.any⟩
            | exact ⟨_, rfl, by rw [hn]; exact rfl, hM0.grow hF4, hF4.any⟩
            | exact ⟨_, rfl, by rw [hho]; exact rfl, hM0.grow hF4, hF4.any⟩
            | (have hz8 := hf8.size
               have hF79 : Foot (fun k => k = gm ∨ k = W.heap.size) w7 w9 := (hf8.mono (fun k h => .inl h)).trans (hf9.mono (fun k h => .inr h))
               have ho9 := (ho7.keep hf8 (ho7.neMap hm7)).keep hf9 (fun x hx h => by have := hfr5 x hx; have h : x.block = W.heap.size := h; omega)
               obtain ⟨hM9, hF9⟩ := mr_more (a := ⟨a, by omega⟩) (r := W.heap.size) hD hg h1 h2 h3 h4 h5 h6 h7 h8 (hF7.any.trans hF79) (Nat.le_refl _) (hm8.keep hf9 (by omega)) hho ho9.vw (hfr5.mono hz3)
               exact ⟨_, rfl, by rw [hho]; exact ⟨o5, c5, rfl, ho9.vw, fun k ⟨x, hx, hk⟩ => hD k (by have := hfr5 x hx; omega)⟩, hM9, hF9⟩)
        ·
          refine Sl.calm (Cm.pick_f rfl rfl) rfl ?_
          refine Sl.calm (Cm.move rfl) rfl ?_
          refine Sl.want rfl rfl (Cm.move rfl) rfl ?_
          refine Sl.want rfl rfl (Cm.len sl25 rfl) rfl ?_
          refine Sl.forkWant rfl rfl (Cm.eql rfl rfl) rfl (fun h67 => ?_) (fun h67 => ?_)
          ·
            rw [if_pos (.inr (.inr (by omega)))] at hho
            refine Sl.calm (Cm.pick_f rfl rfl) rfl ?_
            refine Sl.nil ?_
            refine At.weak [(0, _), (1, _), (4, _), (5, _), (6, _), (7, _), (8, _), (9, _), (10, _), (21, _), (33, _), (68, _)] ⟨rfl, rfl, rfl, rfl, rfl, rfl, rfl, rfl, rfl, rfl, rfl, rfl, trivial⟩ ?_
            refine At.go ?_
            refine Sc.cond_t rfl ?_
            refine Sc.seq ?_
            refine Sc.region ?_
            refine Sl.calm (Cm.build (cs := #[.slice none 0 0, .int .i64 0]) plc142 zc142 rfl (by kernel_rfl)) rfl ?_
            refine Sl.storeAll (vs := (hvC none 0 0 0)) agg142 rfl rfl (hvC_one _ _ _ _) hgr5 rfl ?_
            intro w4 hg4 hs4 hf4
            have hF4 : Foot nob W w4 := hF5.trans_to hf4 (fun k hk => .inr (by have h : k = W.heap.size := hk; omega))
            refine Sl.calm (Cm.assign rfl) rfl ?_
            refine Sl.nil ?_
            refine At.weak [(0, _), (1, _), (4, _), (5, _), (6, _), (7, _), (8, _), (9, _), (10, _), (21, _), (33, _), (68, _)] ⟨rfl, rfl, rfl, rfl, rfl, rfl, rfl, rfl, rfl, rfl, rfl, rfl, trivial⟩ ?_
            refine At.go ?_
            refine Sc.ret ?_
            refine At.then_ret ?_
            refine At.retC (cs := hvC none 0 0 0) rfl agg142 rfl rfl (fun j v hj => cellF hg4 hj) ?_
            first
              | exact ⟨_, rfl, by rw [k1]; exact ⟨bo, bc, rfl, k2.grow hF4, k3⟩, hM0.grow hF4, hF4.any⟩
              | exact ⟨_, rfl, by rw [hn]; exact rfl, hM0.grow hF4, hF4.any⟩
              | exact ⟨_, rfl, by rw [hho]; exact rfl, hM0.grow hF4, hF4.any⟩
              | (have hz8 := hf8.size
                 have hF79 : Foot (fun k => k = gm ∨ k = W.heap.size) w7 w9 := (hf8.mono (fun k h => .inl h)).trans (hf9.mono (fun k h => .inr h))
                 have ho9 := (ho7.keep hf8 (ho7.neMap hm7)).keep hf9 (fun x hx h => by have := hfr5 x hx; have h : x.block = W.heap.size := h; omega)
                 obtain ⟨hM9, hF9⟩ := mr_more (a := ⟨a, by omega⟩) (r := W.heap.size) hD hg h1 h2 h3 h4 h5 h6 h7 h8 (hF7.any.trans hF79) (Nat.le_refl _) (hm8.keep hf9 (by omega)) hho ho9.vw (hfr5.mono hz3)
                 exact ⟨_, rfl, by rw [hho]; exact ⟨o5, c5, rfl, ho9.vw, fun k ⟨x, hx, hk⟩ => hD k (by have := hfr5 x hx; omega)⟩, hM9, hF9⟩)
          ·
            rw [if_neg (by rintro (h | h | h); exact h55 h; omega; omega)] at hho
            refine Sl.calm (Cm.pick_f rfl rfl) rfl ?_
            refine Sl.nil ?_
            refine At.weak [(0, _), (1, _), (4, _), (5, _), (6, _), (7, _), (8, _), (9, _), (10, _), (21, _), (33, _), (68, _)] ⟨rfl, rfl, rfl, rfl, rfl, rfl, rfl, rfl, rfl, rfl, rfl, rfl, trivial⟩ ?_
            refine At.go ?_
            refine Sc.cond_f rfl ?_
            refine Sc.skip ?_
            refine At.go ?_
            refine Sc.seq ?_
            refine Sc.region ?_
            refine Sl.calm (Cm.move rfl) rfl ?_
            refine Sl.calm (Cm.move rfl) rfl ?_
            refine Sl.calm (Cm.move rfl) rfl ?_
            refine Sl.calm (Cm.nilCheck rfl) rfl ?_
            refine Sl.calm (Cm.field fld111_2 rfl) rfl ?_
            refine Sl.calm (Cm.ld sca3 rfl (cellF hg5 rfl)) rfl ?_
            refine Sl.calm (Cm.sub64 rfl rfl (by omega)) rfl ?_
            refine Sl.calm (Cm.build (cs := #[.slice o5 t.1.length c5, .int .i64 (t.2.1 - fr)]) plc142 zc142 rfl (by kernel_rfl)) rfl ?_
            refine Sl.allocC zc142 rfl ?_
            intro w6 hg6 hs6 hf6
            refine Sl.storeAll (vs := (hvC o5 t.1.length c5 (t.2.1 - fr))) agg142 rfl rfl (hvC_one _ _ _ _) hg6 rfl ?_
            intro w7 hg7 hs7 hf7
            have hF57 : Foot nob w5 w7 := hf6.trans_to hf7 (fun k hk => .inr (by have h : k = w5.heap.size := hk; omega))
            have hF7 := hF5.trans hF57
            have hg7g := hF57.obj hg5 id
            have hm7 := h2.keep hF7 id
            have ho7 := ho5.grow hF57
            refine Sl.nil ?_
            refine At.weak [(0, _), (1, _), (4, _), (5, _), (6, _), (7, _), (8, _), (9, _), (10, _), (11, _), (21, _), (33, _), (68, _)] ⟨rfl, rfl, rfl, rfl, rfl, rfl, rfl, rfl, rfl, rfl, rfl, rfl, rfl, trivial⟩ ?_
            refine At.go ?_
            refine Sc.seq ?_
            refine Sc.draw 7 (fun H => H[g]? = some (.cells (mrC p io im.length ic fr to gm).toArray 111 (0, 0)) ∧ H[w5.heap.size]? = some (.cells (hvC o5 t.1.length c5 (t.2.1 - fr)).toArray 142 (0, 0))) [6] [0, 1, 2, 3, 4, 5, 6] mixed (by kernel_rfl) (⟨hg7g, hg7⟩) ?_
            refine Sx.calm rfl rfl (Cm.move rfl) rfl ?_
            refine Sx.calm rfl rfl (Cm.nilCheck rfl) rfl ?_
            refine Sx.calm rfl rfl (Cm.field fld111_4 rfl) rfl ?_
            refine Sx.calm rfl rfl (Cm.load sca109 rfl (fun H hH => cellF hH.1 rfl)) rfl ?_
            refine Sx.calm rfl rfl (Cm.move rfl) rfl ?_
            refine Sx.calm rfl rfl (Cm.loadM (cs := hvC o5 t.1.length c5 (t.2.1 - fr)) agg142 rfl (fun H hH j v hj => cellF hH.2 hj)) rfl ?_
            refine Sx.eff rfl rfl (Sl.mapUpdate mpH (a := (⟨a, by omega⟩ : I6)) keyI rfl rfl rfl hm7 ?_)
            intro w8 hm8 hs8 hf8
            refine Sx.on (by exact ⟨hf8.obj hg7g (obj_neMap hm7 hg7g), hf8.obj hg7 (obj_neMap hm7 hg7)⟩) ?_
            have hf8 := hf8.undraw
            have hgr8 := hf8.obj (hF57.obj hgr5 id) (obj_neMap hm7 (hF57.obj hgr5 id))
            have hg8 := hf8.obj hg7 (obj_neMap hm7 hg7)
            have hz7 := hF57.size
            refine Sx.nil ?_
            refine At.weak [(0, _), (1, _), (4, _), (5, _), (6, _), (7, _), (8, _), (9, _), (10, _), (11, _), (21, _), (33, _), (68, _)] ⟨rfl, rfl, rfl, rfl, rfl, rfl, rfl, rfl, rfl, rfl, rfl, rfl, rfl, trivial⟩ ?_
            refine At.go ?_
            refine Sc.seq ?_
            refine Sc.region ?_
            refine Sl.calm (Cm.ldM (cs := hvC o5 t.1.length c5 (t.2.1 - fr)) agg142 rfl (fun j v hj => cellF hg8 hj)) rfl ?_
            refine Sl.storeAll (vs := (hvC o5 t.1.length c5 (t.2.1 - fr))) agg142 rfl rfl (hvC_one _ _ _ _) hgr8 rfl ?_
            intro w9 hg9 hs9 hf9
            refine Sl.calm (Cm.assign rfl) rfl ?_
            refine Sl.nil ?_
            refine At.weak [(0, _), (1, _), (4, _), (5, _), (6, _), (7, _), (8, _), (9, _), (10, _), (11, _), (21, _), (33, _), (68, _)] ⟨rfl, rfl, rfl, rfl, rfl, rfl, rfl, rfl, rfl, rfl, rfl, rfl, rfl, trivial⟩ ?_
            refine At.go ?_
            refine Sc.ret ?_
            refine At.retC (cs := hvC o5 t.1.length c5 (t.2.1 - fr)) rfl agg142 rfl rfl (fun j v hj => cellF hg9 hj) ?_
            first
              | exact ⟨_, rfl, by rw [k1]; exact ⟨bo, bc, rfl, k2.grow hF4, k3⟩, hM0.grow hF4, hF4.any⟩
              | exact ⟨_, rfl, by rw [hn]; exact rfl, hM0.grow hF4, hF4.any⟩
              | exact ⟨_, rfl, by rw [hho]; exact rfl, hM0.grow hF4, hF4.any⟩
              | (have hz8 := hf8.size
                 have hF79 : Foot (fun k => k = gm ∨ k = W.heap.size) w7 w9 := (hf8.mono (fun k h => .inl h)).trans (hf9.mono (fun k h => .inr h))
                 have ho9 := (ho7.keep hf8 (ho7.neMap hm7)).keep hf9 (fun x hx h => by have := hfr5 x hx; have h : x.block = W.heap.size := h; omega)
                 obtain ⟨hM9, hF9⟩ := mr_more (a := ⟨a, by omega⟩) (r := W.heap.size) hD hg h1 h2 h3 h4 h5 h6 h7 h8 (hF7.any.trans hF79) (Nat.le_refl _) (hm8.keep hf9 (by omega)) hho ho9.vw (hfr5.mono hz3)
                 exact ⟨_, rfl, by rw [hho]; exact ⟨o5, c5, rfl, ho9.vw, fun k ⟨x, hx, hk⟩ => hD k (by have := hfr5 x hx; omega)⟩, hM9, hF9⟩)
end Go.Proofs.Ytoaplldahbbaiaa
