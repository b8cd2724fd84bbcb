/- meta: the plain law: what a writer has, what a reader reads. No condition. -/
import Derived.Test.YtlpfahmkjgompaaFmL
namespace Go.Proofs.Ytlpfahmkjgompaa
open Go Go.RowKit
set_option linter.unusedVariables false

/-! ### the writer -/
def cutW (f t : List UInt8) : List UInt8 × List UInt8 := if 128 ≤ t.length then cutW (f ++ (putS (t.take 128)).1) (t.drop 128) else (f, t)
termination_by t.length
decreasing_by rw [List.length_drop]; omega
def doneW (f t : List UInt8) : List UInt8 := if t.length = 0 then f else f ++ (putS t).1
theorem cutW_small {f t : List UInt8} (h : t.length < 128) : cutW f t = (f, t) := by unfold cutW; rw [if_neg (by omega)]
theorem cutW_big {f t : List UInt8} (h : 128 ≤ t.length) : cutW f t = cutW (f ++ (putS (t.take 128)).1) (t.drop 128) := by rw [cutW, if_pos h]
theorem cutW_rest (f t : List UInt8) : (cutW f t).2.length < 128 := by
  by_cases h : 128 ≤ t.length
  · rw [cutW_big h]; exact cutW_rest _ _
  · rw [cutW_small (by omega)]; show t.length < 128; omega
termination_by t.length
decreasing_by rw [List.length_drop]; omega
theorem cutW_app (f t b : List UInt8) : cutW f (t ++ b) = cutW (cutW f t).1 ((cutW f t).2 ++ b) := by
  by_cases h : 128 ≤ t.length
  · rw [cutW_big h, cutW_big (t := t ++ b) (by rw [List.length_append]; omega), List.take_append_of_le_length h, List.drop_append_of_le_length h]
    exact cutW_app _ _ _
  · rw [cutW_small (t := t) (by omega)]
termination_by t.length
decreasing_by rw [List.length_drop]; omega
theorem take_len128 {t : List UInt8} (h : 128 ≤ t.length) : (t.take 128).length = 128 := by rw [List.length_take]; omega
theorem cutW_len (f t : List UInt8) : (cutW f t).1.length + 2 * (cutW f t).2.length ≤ f.length + 2 * t.length := by
  by_cases h : 128 ≤ t.length
  · have h1 := cutW_len (f ++ (putS (t.take 128)).1) (t.drop 128)
    have h2 := putS_len (b := t.take 128) (by rw [take_len128 h]; omega)
    rw [take_len128 h] at h2
    rw [List.length_append, List.length_drop] at h1
    rw [cutW_big h]; omega
  · rw [cutW_small (by omega)]; exact Nat.le_refl _
termination_by t.length
decreasing_by rw [List.length_drop]; omega
theorem cutW_full {f t : List UInt8} (h : t.length = 128) : cutW f t = (f ++ (putS t).1, []) := by
  rw [cutW_big (by omega), List.take_of_length_le (by omega), List.drop_of_length_le (by omega), cutW_small (by simp)]

/-! ### frames of whole chunks -/
def chW (T : List UInt8) (q : Nat) : List UInt8 := (T.drop (128 * q)).take 128
def frW (T : List UInt8) : Nat → List UInt8
  | 0 => []
  | q + 1 => frW T q ++ (putS (chW T q)).1
def nF (T : List UInt8) : Nat := (T.length + 127) / 128
def refT (T : List UInt8) (o : Nat) : Nat := 256 * (frW T (o / 128)).length + o % 128
theorem chW_len (T : List UInt8) (q : Nat) : (chW T q).length = min 128 (T.length - 128 * q) := by unfold chW; rw [List.length_take, List.length_drop]
theorem chW_le (T : List UInt8) (q : Nat) : (chW T q).length ≤ 128 := by rw [chW_len]; omega
theorem frW_pre (T : List UInt8) (q : Nat) : ∀ k, ∃ z, frW T (q + k) = frW T q ++ z
  | 0 => ⟨[], by simp⟩
  | k + 1 => by
    obtain ⟨z, hz⟩ := frW_pre T q k
    exact ⟨z ++ (putS (chW T (q + k))).1, by rw [← Nat.add_assoc]; show frW T (q + k) ++ _ = _; rw [hz, List.append_assoc]⟩
theorem frW_split {T : List UInt8} {q n : Nat} (h : q < n) : ∃ z, frW T n = frW T q ++ ((putS (chW T q)).1 ++ z) := by
  obtain ⟨z, hz⟩ := frW_pre T (q + 1) (n - (q + 1))
  rw [show q + 1 + (n - (q + 1)) = n by omega] at hz
  exact ⟨z, by rw [hz]; show (frW T q ++ _) ++ z = _; rw [List.append_assoc]⟩
theorem frW_mono {T : List UInt8} {q n : Nat} (h : q ≤ n) : (frW T q).length ≤ (frW T n).length := by
  obtain ⟨z, hz⟩ := frW_pre T q (n - q)
  rw [show q + (n - q) = n by omega] at hz
  rw [hz, List.length_append]; omega
theorem frW_le (T : List UInt8) : ∀ q, (frW T q).length ≤ 135 * q
  | 0 => by simp [frW]
  | q + 1 => by
    have := frW_le T q
    have h1 := putS_len (chW_le T q)
    have h2 := chW_le T q
    show (frW T q ++ _).length ≤ _
    rw [List.length_append]; omega
theorem frW_lt {T : List UInt8} (q : Nat) : (frW T q).length < (frW T (q + 1)).length := by
  have h1 := putS_len (chW_le T q)
  show _ < (frW T q ++ _).length
  rw [List.length_append]; omega
theorem chW_take {T : List UInt8} {o q : Nat} (h : 128 * q + 128 ≤ o) : chW (T.take o) q = chW T q := by
  unfold chW
  rw [List.drop_take, List.take_take, Nat.min_eq_left (by omega)]
theorem frW_take {T : List UInt8} {o : Nat} : ∀ q, 128 * q ≤ o → frW (T.take o) q = frW T q
  | 0, _ => rfl
  | q + 1, h => by
    show frW (T.take o) q ++ _ = frW T q ++ _
    rw [frW_take q (by omega), chW_take (by omega)]
theorem cutW_frW (T : List UInt8) (q : Nat) (h : 128 * q ≤ T.length) : cutW (frW T q) (T.drop (128 * q)) = (frW T (T.length / 128), T.drop (128 * (T.length / 128))) := by
  by_cases h1 : 128 ≤ (T.drop (128 * q)).length
  · have h2 := h1
    rw [List.length_drop] at h2
    rw [cutW_big h1, List.drop_drop]
    exact cutW_frW T (q + 1) (by omega)
  · rw [cutW_small (by omega)]
    rw [List.length_drop] at h1
    rw [show T.length / 128 = q by omega]
termination_by T.length - 128 * q
decreasing_by rw [List.length_drop] at h1; omega
theorem cutW_all (T : List UInt8) : cutW [] T = (frW T (T.length / 128), T.drop (128 * (T.length / 128))) := cutW_frW T 0 (by omega)
theorem doneW_all (T : List UInt8) : doneW (cutW [] T).1 (cutW [] T).2 = frW T (nF T) := by
  rw [cutW_all]
  unfold doneW nF
  simp only [List.length_drop]
  by_cases h : T.length - 128 * (T.length / 128) = 0
  · rw [if_pos h, show (T.length + 127) / 128 = T.length / 128 by omega]
  · rw [if_neg h, show (T.length + 127) / 128 = T.length / 128 + 1 by omega]
    show _ = frW T _ ++ _
    unfold chW
    rw [List.take_of_length_le (by rw [List.length_drop]; omega)]
theorem refT_all (T : List UInt8) : refT T T.length = 256 * (cutW [] T).1.length + (cutW [] T).2.length := by
  rw [cutW_all]
  unfold refT
  simp only [List.length_drop]; omega
theorem refT_take {T : List UInt8} {o : Nat} (h : o ≤ T.length) : refT T o = refT (T.take o) (T.take o).length := by
  unfold refT
  rw [List.length_take, Nat.min_eq_left h, frW_take _ (by omega)]

theorem refT_b {T : List UInt8} {o : Nat} (h : o ≤ 1099511627776) : refT T o ≤ 1152921504606846976 := by
  have := frW_le T (o / 128)
  unfold refT
  omega

/-! ### the reader -/
def mayS (im : List UInt8) (fr to : Int) : Bool := decide (0 ≤ fr) && decide (fr ≤ to) && decide (to ≤ im.length)
def holdsS (im : List UInt8) (fr to at_ : Int) : Option (List UInt8 × Int) :=
  if to - fr < at_ then none else
  if (takeS im (fr + at_)).2.2 ≠ 0 ∨ to < (takeS im (fr + at_)).2.1 ∨ (takeS im (fr + at_)).1.length = 0 then none else
  some ((takeS im (fr + at_)).1, (takeS im (fr + at_)).2.1 - fr)
def rdL (im : List UInt8) (fr to : Int) (n : Nat) (at_ : Int) (i : Nat) (out : List UInt8) : List UInt8 × Int × Int :=
  if out.length < n then
    match holdsS im fr to at_ with
    | none => ([], 0, 2)
    | some (b, nx) => if b.length ≤ i then ([], 0, 2) else
      if i + ((b.drop i).take (n - out.length)).length = 128 then rdL im fr to n nx 0 (out ++ (b.drop i).take (n - out.length)) else
      if (out ++ (b.drop i).take (n - out.length)).length < n then ([], 0, 2) else
      rdL im fr to n at_ (i + ((b.drop i).take (n - out.length)).length) (out ++ (b.drop i).take (n - out.length))
  else (out, 256 * at_ + i, 0)
termination_by n - out.length
decreasing_by
  all_goals (rw [List.length_append, List.length_take, List.length_drop]; omega)
def readS (im : List UInt8) (fr to ref n : Int) : List UInt8 × Int × Int :=
  if ref < 0 ∨ n < 0 then ([], 0, 1) else if mayS im fr to = false then ([], 0, 2) else rdL im fr to n.toNat (ref / 256) (ref % 256).toNat []
def nextS (im : List UInt8) (fr to ref : Int) : Int × Int :=
  if ref < 0 then (0, 1) else if mayS im fr to = false ∨ to - fr < ref / 256 then (0, 2) else
  if (skipS im (fr + ref / 256)).2 ≠ 0 ∨ to < (skipS im (fr + ref / 256)).1 then (0, 2) else (256 * ((skipS im (fr + ref / 256)).1 - fr), 0)

section
variable {im : List UInt8} {fr to : Int} {n : Nat} {at_ : Int} {i : Nat} {out b : List UInt8} {nx : Int}
theorem rdL_end (h : ¬ out.length < n) : rdL im fr to n at_ i out = (out, 256 * at_ + i, 0) := by unfold rdL; rw [if_neg h]
theorem rdL_none (h : out.length < n) (hh : holdsS im fr to at_ = none) : rdL im fr to n at_ i out = ([], 0, 2) := by
  unfold rdL; rw [if_pos h, hh]
theorem rdL_out (h : out.length < n) (hh : holdsS im fr to at_ = some (b, nx)) (hi : b.length ≤ i) : rdL im fr to n at_ i out = ([], 0, 2) := by
  unfold rdL; rw [if_pos h, hh]; simp only; rw [if_pos hi]
theorem rdL_next (h : out.length < n) (hh : holdsS im fr to at_ = some (b, nx)) (hi : ¬ b.length ≤ i) (h1 : i + ((b.drop i).take (n - out.length)).length = 128) :
    rdL im fr to n at_ i out = rdL im fr to n nx 0 (out ++ (b.drop i).take (n - out.length)) := by
  rw [rdL, if_pos h, hh]; simp only; rw [if_neg hi, if_pos h1]
theorem rdL_bad (h : out.length < n) (hh : holdsS im fr to at_ = some (b, nx)) (hi : ¬ b.length ≤ i) (h1 : ¬ i + ((b.drop i).take (n - out.length)).length = 128)
    (h2 : (out ++ (b.drop i).take (n - out.length)).length < n) : rdL im fr to n at_ i out = ([], 0, 2) := by
  rw [rdL, if_pos h, hh]; simp only; rw [if_neg hi, if_neg h1, if_pos h2]
theorem rdL_on (h : out.length < n) (hh : holdsS im fr to at_ = some (b, nx)) (hi : ¬ b.length ≤ i) (h1 : ¬ i + ((b.drop i).take (n - out.length)).length = 128)
    (h2 : ¬ (out ++ (b.drop i).take (n - out.length)).length < n) : rdL im fr to n at_ i out = rdL im fr to n at_ (i + ((b.drop i).take (n - out.length)).length) (out ++ (b.drop i).take (n - out.length)) := by
  rw [rdL, if_pos h, hh]; simp only; rw [if_neg hi, if_neg h1, if_neg h2]
theorem takeS_ok {a : Int} (h : (takeS im a).2.2 = 0) : a + 3 ≤ (takeS im a).2.1 := by
  have e : (takeS im a).2.1 = if (takeC (cutS im a)).2.2 = 0 then a + (takeC (cutS im a)).2.1 else 0 := rfl
  have e2 : (takeC (cutS im a)).2.2 = 0 := h
  rw [e, if_pos e2]
  have : 3 ≤ (takeC (cutS im a)).2.1 := by
    unfold takeC at e2 ⊢
    split
    · rename_i hn; rw [hn] at e2; simp at e2
    · rename_i x s st hn
      rw [hn] at e2
      simp only at e2
      by_cases h0 : x.length = 0
      · rw [if_pos h0]; exact Nat.le_refl _
      · rw [if_neg h0] at e2 ⊢
        by_cases h1 : sumS x ≠ s
        · rw [if_pos h1] at e2; simp at e2
        · rw [if_neg h1] at e2 ⊢
          have hl : 3 ≤ lenF x := by unfold lenF; rw [if_neg h0]; omega
          split
          · exact hl
          · rename_i hst
            rw [if_neg hst] at e2
            split
            · rename_i hb; rw [if_pos hb] at e2; simp at e2
            · exact hl
  omega
theorem holdsS_some (h : holdsS im fr to at_ = some (b, nx)) : at_ ≤ to - fr ∧ (takeS im (fr + at_)).2.2 = 0 ∧ b = (takeS im (fr + at_)).1 ∧ nx = (takeS im (fr + at_)).2.1 - fr ∧ nx ≤ to - fr ∧ at_ + 3 ≤ nx ∧ 0 < b.length ∧ b.length ≤ 128 := by
  unfold holdsS at h
  split at h
  · cases h
  · split at h
    · cases h
    · rename_i h1 h2
      have h3 : (takeS im (fr + at_)).2.2 = 0 := Classical.byContradiction fun hn => h2 (.inl hn)
      have h4 := takeS_ok h3
      have h5 := takeS_len im (fr + at_)
      cases h
      exact ⟨by omega, h3, rfl, rfl, by omega, by omega, by omega, h5⟩
end
theorem mayS_eq {im : List UInt8} {fr to : Int} {x : Bool} (h : x = true ↔ 0 ≤ fr ∧ fr ≤ to ∧ to ≤ im.length) : x = mayS im fr to := by
  rw [Bool.eq_iff_iff, h]
  unfold mayS
  simp only [Bool.and_eq_true, decide_eq_true_eq]
  omega
/-! ### a row in an image -/
section
variable (T pre post : List UInt8)
def imW : List UInt8 := pre ++ (frW T (nF T) ++ post)
def toW : Int := (pre.length : Int) + (frW T (nF T)).length
theorem may_W : mayS (imW T pre post) pre.length (toW T pre) = true := by
  unfold mayS imW toW
  simp only [List.length_append, Bool.and_eq_true, decide_eq_true_eq]
  omega
theorem take_W {q : Nat} (h : q < nF T) : takeS (imW T pre post) ((pre.length : Int) + (frW T q).length) = (chW T q, (pre.length : Int) + (frW T (q + 1)).length, 0) ∧ skipS (imW T pre post) ((pre.length : Int) + (frW T q).length) = ((pre.length : Int) + (frW T (q + 1)).length, 0) := by
  obtain ⟨z, hz⟩ := frW_split (T := T) h
  have h1 := takeS_put (chW_le T q) (pre ++ frW T q) (z ++ post)
  have e : imW T pre post = (pre ++ frW T q) ++ ((putS (chW T q)).1 ++ (z ++ post)) := by unfold imW; rw [hz]; simp [List.append_assoc]
  have e2 : (((pre ++ frW T q).length : Nat) : Int) = (pre.length : Int) + (frW T q).length := by rw [List.length_append]; omega
  have e3 : (frW T (q + 1)).length = (frW T q).length + (putS (chW T q)).1.length := by show (frW T q ++ _).length = _; rw [List.length_append]
  rw [← e, e2] at h1
  rw [e3]
  refine ⟨h1.1.trans ?_, h1.2.trans ?_⟩
  · congr 2; omega
  · congr 1; omega
theorem holds_W {q : Nat} (h : q < nF T) : holdsS (imW T pre post) pre.length (toW T pre) (frW T q).length = some (chW T q, ((frW T (q + 1)).length : Int)) := by
  obtain ⟨h1, _⟩ := take_W T pre post h
  have h2 := frW_mono (T := T) (Nat.le_of_lt h)
  have h3 := frW_mono (T := T) (show q + 1 ≤ nF T from h)
  have h4 : 0 < (chW T q).length := by rw [chW_len]; unfold nF at h; omega
  unfold holdsS toW
  rw [if_neg (by omega), h1]
  simp only
  rw [if_neg (by omega)]
  congr 2; omega
theorem holds_end : holdsS (imW T pre post) pre.length (toW T pre) (frW T (nF T)).length = none := by
  unfold holdsS
  split
  · rfl
  · by_cases h : (takeS (imW T pre post) ((pre.length : Int) + (frW T (nF T)).length)).2.2 = 0
    · have := takeS_ok h
      rw [if_pos (.inr (.inl (by unfold toW; omega)))]
    · rw [if_pos (.inl h)]
theorem chW_at {o : Nat} (h : o < T.length) : o / 128 < nF T ∧ o % 128 < (chW T (o / 128)).length := by
  rw [chW_len]; unfold nF; omega
theorem drop_drop' (l : List UInt8) (a b c : Nat) (h : a + b = c) : (l.drop a).drop b = l.drop c := by rw [List.drop_drop, h]
theorem rd_W (m : Nat) : ∀ (o : Nat) (out : List UInt8), o + m ≤ T.length →
    rdL (imW T pre post) pre.length (toW T pre) (out.length + m) (frW T (o / 128)).length (o % 128) out = (out ++ (T.drop o).take m, ((refT T (o + m) : Nat) : Int), 0) := by
  induction m using Nat.strongRecOn with
  | ind m ih =>
    intro o out h
    by_cases h0 : m = 0
    · subst h0
      rw [rdL_end (by omega)]
      unfold refT
      simp
    · obtain ⟨c1, c2⟩ := chW_at T (o := o) (by omega)
      have hh := holds_W T pre post c1
      have hlen := chW_len T (o / 128)
      have hp : ((chW T (o / 128)).drop (o % 128)).take (out.length + m - out.length) = (T.drop o).take (min (128 - o % 128) m) := by
        unfold chW
        rw [List.drop_take, drop_drop' T (128 * (o / 128)) (o % 128) o (by omega), List.take_take]
        congr 1; omega
      have hpl : ((T.drop o).take (min (128 - o % 128) m)).length = min (128 - o % 128) m := by rw [List.length_take, List.length_drop]; omega
      have key : (out ++ (T.drop o).take (min (128 - o % 128) m)) ++ (T.drop (o + min (128 - o % 128) m)).take (m - min (128 - o % 128) m) = out ++ (T.drop o).take m := by
        rw [List.append_assoc]
        congr 1
        have := List.take_append_drop (min (128 - o % 128) m) ((T.drop o).take m)
        rw [List.take_take, List.drop_take, List.drop_drop, Nat.min_eq_left (by omega)] at this
        exact this
      by_cases hk : o % 128 + min (128 - o % 128) m = 128
      · rw [rdL_next (by omega) hh (by omega) (by rw [hp, hpl]; exact hk), hp]
        have e := ih (m - min (128 - o % 128) m) (by omega) (o + min (128 - o % 128) m) (out ++ (T.drop o).take (min (128 - o % 128) m)) (by omega)
        rw [key, List.length_append, hpl, show out.length + min (128 - o % 128) m + (m - min (128 - o % 128) m) = out.length + m by omega, show (o + min (128 - o % 128) m) / 128 = o / 128 + 1 by omega, show (o + min (128 - o % 128) m) % 128 = 0 by omega,
          show o + min (128 - o % 128) m + (m - min (128 - o % 128) m) = o + m by omega] at e
        exact e
      · have hm : min (128 - o % 128) m = m := by omega
        rw [rdL_on (by omega) hh (by omega) (by rw [hp, hpl]; exact hk) (by rw [hp, List.length_append, hpl]; omega), hp, hpl, hm]
        rw [rdL_end (by rw [List.length_append, List.length_take, List.length_drop]; omega)]
        congr 2
        unfold refT
        rw [show (o + m) / 128 = o / 128 by omega]
        omega
theorem read_W {o m : Nat} (h : o + m ≤ T.length) : readS (imW T pre post) pre.length (toW T pre) (refT T o : Nat) (m : Nat) = ((T.drop o).take m, ((refT T (o + m) : Nat) : Int), 0) := by
  unfold readS
  have e1 : ((refT T o : Nat) : Int) / 256 = (frW T (o / 128)).length := by unfold refT; omega
  have e2 : (((refT T o : Nat) : Int) % 256).toNat = o % 128 := by unfold refT; omega
  rw [if_neg (by omega), if_neg (by rw [may_W]; simp), e1, e2, Int.toNat_natCast]
  have := rd_W T pre post m o [] h
  rw [List.length_nil, Nat.zero_add, List.nil_append] at this
  exact this
theorem rd_past (m : Nat) : ∀ (o : Nat) (out : List UInt8), o ≤ T.length → T.length < o + m →
    rdL (imW T pre post) pre.length (toW T pre) (out.length + m) (frW T (o / 128)).length (o % 128) out = ([], 0, 2) := by
  induction m using Nat.strongRecOn with
  | ind m ih =>
    intro o out ho h
    by_cases hT : o = T.length
    · by_cases h0 : o % 128 = 0
      · rw [show o / 128 = nF T by unfold nF; omega]
        exact rdL_none (by omega) (holds_end T pre post)
      · exact rdL_out (by omega) (holds_W T pre post (q := o / 128) (by unfold nF; omega)) (by rw [chW_len]; omega)
    · obtain ⟨c1, c2⟩ := chW_at T (o := o) (by omega)
      have hh := holds_W T pre post c1
      have hlen := chW_len T (o / 128)
      obtain ⟨x, hx⟩ : ∃ x, x = ((chW T (o / 128)).drop (o % 128)).take (out.length + m - out.length) := ⟨_, rfl⟩
      have hxl : x.length = min ((chW T (o / 128)).length - o % 128) m := by rw [hx, List.length_take, List.length_drop]; omega
      by_cases hk : o % 128 + x.length = 128
      · rw [rdL_next (by omega) hh (by omega) (by rw [← hx]; exact hk), ← hx]
        have e := ih (m - x.length) (by omega) (o + x.length) (out ++ x) (by omega) (by omega)
        rw [List.length_append, show out.length + x.length + (m - x.length) = out.length + m by omega, show (o + x.length) / 128 = o / 128 + 1 by omega, show (o + x.length) % 128 = 0 by omega] at e
        exact e
      · exact rdL_bad (by omega) hh (by omega) (by rw [← hx]; exact hk) (by rw [← hx, List.length_append]; omega)
theorem read_past {o m : Nat} (ho : o ≤ T.length) (h : T.length < o + m) : readS (imW T pre post) pre.length (toW T pre) (refT T o : Nat) (m : Nat) = ([], 0, 2) := by
  unfold readS
  have e1 : ((refT T o : Nat) : Int) / 256 = (frW T (o / 128)).length := by unfold refT; omega
  have e2 : (((refT T o : Nat) : Int) % 256).toNat = o % 128 := by unfold refT; omega
  rw [if_neg (by omega), if_neg (by rw [may_W]; simp), e1, e2, Int.toNat_natCast]
  have := rd_past T pre post m o [] ho h
  rw [List.length_nil, Nat.zero_add] at this
  exact this
theorem next_W {q : Nat} (h : q < nF T) : nextS (imW T pre post) pre.length (toW T pre) (256 * (frW T q).length : Nat) = (((256 * (frW T (q + 1)).length : Nat) : Int), 0) := by
  obtain ⟨_, h1⟩ := take_W T pre post h
  have h2 := frW_mono (T := T) (Nat.le_of_lt h)
  have h3 := frW_mono (T := T) (show q + 1 ≤ nF T from h)
  have e : ((256 * (frW T q).length : Nat) : Int) / 256 = (frW T q).length := by omega
  unfold nextS
  rw [if_neg (by omega), e, if_neg (by rw [may_W]; unfold toW; simp; omega), h1]
  simp only
  rw [if_neg (by unfold toW; simp; omega)]
  congr 1; omega
theorem next_end : nextS (imW T pre post) pre.length (toW T pre) (256 * (frW T (nF T)).length : Nat) = (0, 2) := by
  have e : ((256 * (frW T (nF T)).length : Nat) : Int) / 256 = (frW T (nF T)).length := by omega
  unfold nextS
  rw [if_neg (by omega), e]
  split
  · rfl
  · by_cases h : (skipS (imW T pre post) ((pre.length : Int) + (frW T (nF T)).length)).2 = 0
    · have : toW T pre < (skipS (imW T pre post) ((pre.length : Int) + (frW T (nF T)).length)).1 := by
        unfold skipS at h ⊢
        split at h
        · cases h
        · rename_i x s st hx
          simp only
          unfold toW lenF
          split <;> omega
      rw [if_pos (.inr this)]
    · rw [if_pos (.inl h)]
end
theorem imW_nil (T : List UInt8) : imW T [] [] = frW T (nF T) := by unfold imW; simp
theorem toW_nil (T : List UInt8) : toW T [] = (frW T (nF T)).length := by unfold toW; simp
end Go.Proofs.Ytlpfahmkjgompaa
