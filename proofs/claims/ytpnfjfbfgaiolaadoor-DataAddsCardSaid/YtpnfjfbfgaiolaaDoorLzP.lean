/- lz: the plain law: what is like, matches, what is packed and unpacked. No condition. -/
import Derived.Test.YtpnfjfbfgaiolaaDoorGen
namespace Go.Proofs.YtpnfjfbfgaiolaaDoor
open Go Go.RowKit
set_option linter.unusedVariables false

/-! ### like -/
def CL (b : List UInt8) (a o i : Nat) : Prop := i < 130 ∧ a + i < b.length ∧ b.getD (a + i) 0 = b.getD (o + i) 0
instance (b : List UInt8) (a o i : Nat) : Decidable (CL b a o i) := by unfold CL; exact inferInstance
def likG (b : List UInt8) (a o : Nat) : Nat → Nat → Nat
  | 0, n => n
  | f + 1, n => if CL b a o n then likG b a o f (n + 1) else n
def lik (b : List UInt8) (a o : Nat) : Nat := likG b a o 131 0
theorem likG_spec (b : List UInt8) (a o : Nat) : ∀ f n, 131 ≤ n + f → (∀ i, i < n → CL b a o i) → (∀ i, i < likG b a o f n → CL b a o i) ∧ ¬ CL b a o (likG b a o f n)
  | 0, n, h, hc => by have := (hc (n - 1) (by omega)).1; omega
  | f + 1, n, h, hc => by
    unfold likG
    split
    · rename_i hn
      exact likG_spec b a o f (n + 1) (by omega) (fun i hi => by by_cases h2 : i = n; rw [h2]; exact hn; exact hc i (by omega))
    · rename_i hn; exact ⟨hc, hn⟩
theorem lik_spec (b : List UInt8) (a o : Nat) : (∀ i, i < lik b a o → CL b a o i) ∧ ¬ CL b a o (lik b a o) := likG_spec b a o 131 0 (by decide) (by intro i hi; omega)
theorem lik_eq {b : List UInt8} {a o n : Nat} (h1 : ∀ i, i < n → CL b a o i) (h2 : ¬ CL b a o n) : n = lik b a o := by
  obtain ⟨g1, g2⟩ := lik_spec b a o
  rcases Nat.lt_trichotomy n (lik b a o) with h | h | h
  · exact absurd (g1 n h) h2
  · exact h
  · exact absurd (h1 _ h) g2
theorem lik_le (b : List UInt8) (a o : Nat) : lik b a o ≤ 130 ∧ (0 < lik b a o → a + lik b a o ≤ b.length) := by
  obtain ⟨g1, _⟩ := lik_spec b a o
  refine ⟨?_, fun h => ?_⟩
  · by_cases h : 0 < lik b a o
    · have := (g1 (lik b a o - 1) (by omega)).1; omega
    · omega
  · have := (g1 (lik b a o - 1) (by omega)).2.1; omega
theorem lik_le2 (b : List UInt8) (a o : Nat) : lik b a o ≤ b.length - a := by
  have := lik_le b a o; omega

/-! ### matches -/
def stp (b : List UInt8) (a : Nat) (s : Nat × Nat) (i : Nat) : Nat × Nat := if s.1 < lik b a i then (lik b a i, a - i) else s
def thr (s : Nat × Nat) : Nat × Nat := if s.1 < 3 then (0, 0) else s
/-- the longest of the matches that are so near, and the nearest of these -/
def bst (b : List UInt8) (a k : Nat) : Nat × Nat := ((List.range' (a - k) k).reverse).foldl (stp b a) (0, 0)
def mt (b : List UInt8) (a : Nat) : Nat × Nat := if a < b.length then thr (bst b a (min 256 a)) else (0, 0)
theorem bst_succ (b : List UInt8) {a k : Nat} (h : k + 1 ≤ a) : bst b a (k + 1) = stp b a (bst b a k) (a - (k + 1)) := by
  unfold bst
  rw [List.range'_succ, List.reverse_cons, List.foldl_append, show a - (k + 1) + 1 = a - k by omega]; rfl
theorem bst_spec (b : List UInt8) (a : Nat) : ∀ k, k ≤ a → (∀ j, 1 ≤ j → j ≤ k → lik b a (a - j) ≤ (bst b a k).1) ∧
    ((bst b a k).1 = 0 ∧ (bst b a k).2 = 0 ∨ 1 ≤ (bst b a k).2 ∧ (bst b a k).2 ≤ k ∧ 0 < (bst b a k).1 ∧ lik b a (a - (bst b a k).2) = (bst b a k).1 ∧ ∀ j, 1 ≤ j → j < (bst b a k).2 → lik b a (a - j) < (bst b a k).1)
  | 0, _ => ⟨fun j h1 h2 => by omega, .inl ⟨rfl, rfl⟩⟩
  | k + 1, h => by
    obtain ⟨h1, h2⟩ := bst_spec b a k (by omega)
    rw [bst_succ b h]
    generalize bst b a k = s at h1 h2 ⊢
    unfold stp
    by_cases hs : s.1 < lik b a (a - (k + 1))
    · rw [if_pos hs]
      refine ⟨fun j j1 j2 => ?_, .inr ⟨by simp only; omega, by simp only; omega, by simp only; omega, ?_, fun j j1 j2 => ?_⟩⟩
      · by_cases e : j = k + 1
        · rw [e]; exact Nat.le_refl _
        · exact Nat.le_of_lt (Nat.lt_of_le_of_lt (h1 j j1 (by omega)) hs)
      · simp only
        rw [show a - (a - (k + 1)) = k + 1 by omega]
      · exact Nat.lt_of_le_of_lt (h1 j j1 (by simp only at j2; omega)) hs
    · rw [if_neg hs]
      refine ⟨fun j j1 j2 => ?_, ?_⟩
      · by_cases e : j = k + 1
        · rw [e]; omega
        · exact h1 j j1 (by omega)
      · rcases h2 with h2 | ⟨c1, c2, c3, c4, c5⟩
        · exact .inl h2
        · exact .inr ⟨c1, by omega, c3, c4, c5⟩
theorem bst_le (b : List UInt8) (a k : Nat) (h : k ≤ a) : (bst b a k).1 ≤ 130 ∧ (bst b a k).1 ≤ b.length - a := by
  rcases (bst_spec b a k h).2 with ⟨e, _⟩ | ⟨_, _, _, e, _⟩
  · omega
  · rw [← e]; exact ⟨(lik_le _ _ _).1, lik_le2 _ _ _⟩
/-- a match is one -/
theorem mt_spec {b : List UInt8} {a : Nat} (h : (mt b a).1 ≠ 0) : a < b.length ∧ 3 ≤ (mt b a).1 ∧ (mt b a).1 ≤ 130 ∧ a + (mt b a).1 ≤ b.length ∧ 1 ≤ (mt b a).2 ∧ (mt b a).2 ≤ 256 ∧ (mt b a).2 ≤ a ∧
    lik b a (a - (mt b a).2) = (mt b a).1 ∧ ∀ j, 1 ≤ j → j < (mt b a).2 → lik b a (a - j) < (mt b a).1 := by
  unfold mt at h ⊢
  by_cases hb : a < b.length
  · rw [if_pos hb] at h ⊢
    unfold thr at h ⊢
    by_cases h3 : (bst b a (min 256 a)).1 < 3
    · rw [if_pos h3] at h; exact absurd rfl h
    · rw [if_neg h3] at h ⊢
      have hl := bst_le b a (min 256 a) (by omega)
      rcases (bst_spec b a (min 256 a) (by omega)).2 with ⟨e, _⟩ | ⟨c1, c2, c3, c4, c5⟩
      · omega
      · exact ⟨hb, by omega, hl.1, by omega, c1, by omega, by omega, c4, c5⟩
  · rw [if_neg hb] at h; exact absurd rfl h
theorem mt_zero {b : List UInt8} {a : Nat} (h : (mt b a).1 = 0) : mt b a = (0, 0) := by
  unfold mt thr at h ⊢
  split
  · rename_i hb
    rw [if_pos hb] at h
    split
    · rfl
    · rename_i h3; rw [if_neg h3] at h; omega
  · rfl
theorem mt_short {b : List UInt8} {a : Nat} (h : b.length < a + 3) : mt b a = (0, 0) := by
  apply mt_zero
  apply Classical.byContradiction
  intro hn
  have := mt_spec hn
  omega

/-! by places that begin likewise -/
def st3 (b : List UInt8) (i : Nat) : UInt8 × UInt8 × UInt8 := (b.getD i 0, b.getD (i + 1) 0, b.getD (i + 2) 0)
def posL (b : List UInt8) (lo hi : Nat) (a : UInt8 × UInt8 × UInt8) : List Nat := (List.range' lo (hi - lo)).filter (fun i => decide (i + 3 ≤ b.length ∧ st3 b i = a))
theorem lik_three {b : List UInt8} {a i : Nat} (h : a + 3 ≤ b.length) : 3 ≤ lik b a i ↔ st3 b i = st3 b a := by
  obtain ⟨g1, g2⟩ := lik_spec b a i
  constructor
  · intro h3
    have c0 := (g1 0 (by omega)).2.2
    have c1 := (g1 1 (by omega)).2.2
    have c2 := (g1 2 (by omega)).2.2
    unfold st3
    rw [Nat.add_zero, Nat.add_zero] at c0
    rw [c0, c1, c2]
  · intro e
    unfold st3 at e
    simp only [Prod.mk.injEq] at e
    apply Classical.byContradiction
    intro hn
    apply g2
    refine ⟨by omega, by omega, ?_⟩
    have : lik b a i = 0 ∨ lik b a i = 1 ∨ lik b a i = 2 := by omega
    rcases this with e1 | e1 | e1 <;> rw [e1]
    · exact e.1.symm
    · exact e.2.1.symm
    · exact e.2.2.symm
theorem thr_fold {b : List UInt8} {a : Nat} {p : Nat → Bool} : ∀ (L : List Nat) (s : Nat × Nat), (∀ i ∈ L, p i = true ↔ 3 ≤ lik b a i) → thr (L.foldl (stp b a) s) = (L.filter p).foldl (stp b a) (thr s)
  | [], s, _ => rfl
  | i :: r, s, h => by
    have ih := thr_fold r (stp b a s i) (fun j hj => h j (by simp [hj]))
    have hi := h i (by simp)
    rw [List.foldl_cons, ih]
    by_cases hp : 3 ≤ lik b a i
    · rw [List.filter_cons_of_pos (hi.2 hp), List.foldl_cons]
      congr 1
      have e : thr (lik b a i, a - i) = (lik b a i, a - i) := by unfold thr; rw [if_neg (by show ¬ lik b a i < 3; omega)]
      by_cases h3 : s.1 < 3
      · have e1 : stp b a s i = (lik b a i, a - i) := by unfold stp; rw [if_pos (by omega)]
        have e2 : thr s = (0, 0) := by unfold thr; rw [if_pos h3]
        rw [e1, e2, e]; unfold stp; rw [if_pos (by show 0 < lik b a i; omega)]
      · have e2 : thr s = s := by unfold thr; rw [if_neg h3]
        rw [e2]
        by_cases h4 : s.1 < lik b a i
        · have e1 : stp b a s i = (lik b a i, a - i) := by unfold stp; rw [if_pos h4]
          rw [e1, e]
        · have e1 : stp b a s i = s := by unfold stp; rw [if_neg h4]
          rw [e1, e2]
    · rw [List.filter_cons_of_neg (fun e => hp (hi.1 e))]
      congr 1
      by_cases h3 : s.1 < lik b a i
      · have e1 : stp b a s i = (lik b a i, a - i) := by unfold stp; rw [if_pos h3]
        rw [e1]; unfold thr; rw [if_pos (by show lik b a i < 3; omega), if_pos (by omega)]
      · have e1 : stp b a s i = s := by unfold stp; rw [if_neg h3]
        rw [e1]
theorem posL_sorted (b : List UInt8) (lo hi : Nat) (a : UInt8 × UInt8 × UInt8) : (posL b lo hi a).Pairwise (· < ·) := (List.pairwise_lt_range' (s := lo) (n := hi - lo)).filter _
theorem posL_mem {b : List UInt8} {lo hi i : Nat} {a : UInt8 × UInt8 × UInt8} : i ∈ posL b lo hi a ↔ lo ≤ i ∧ i < hi ∧ i + 3 ≤ b.length ∧ st3 b i = a := by
  unfold posL
  rw [List.mem_filter, List.mem_range'_1]
  simp only [decide_eq_true_eq]
  constructor
  · rintro ⟨⟨h1, h2⟩, h3⟩; exact ⟨h1, by omega, h3⟩
  · rintro ⟨h1, h2, h3⟩; exact ⟨⟨h1, by omega⟩, h3⟩
theorem posL_len (b : List UInt8) (lo hi : Nat) (a : UInt8 × UInt8 × UInt8) : (posL b lo hi a).length ≤ hi - lo := by
  have := List.length_filter_le (fun i => decide (i + 3 ≤ b.length ∧ st3 b i = a)) (List.range' lo (hi - lo))
  unfold posL; simpa using this
theorem mt_pos {b : List UInt8} {lo a : Nat} (h : a + 3 ≤ b.length) (hlo : lo ≤ a - 256) :
    mt b a = (((posL b lo a (st3 b a)).filter (fun i => decide (a - i ≤ 256))).reverse).foldl (stp b a) (0, 0) := by
  have e1 : mt b a = thr (bst b a (min 256 a)) := by unfold mt; rw [if_pos (by omega)]
  rw [e1]
  unfold bst
  rw [thr_fold (p := fun i => decide (i + 3 ≤ b.length ∧ st3 b i = st3 b a)) _ _ (fun i hi => by
    rw [List.mem_reverse, List.mem_range'_1] at hi
    rw [decide_eq_true_iff, lik_three h]
    exact ⟨fun g => g.2, fun g => ⟨by omega, g⟩⟩)]
  rw [List.filter_reverse]
  have e2 : (List.range' (a - min 256 a) (min 256 a)).filter (fun i => decide (i + 3 ≤ b.length ∧ st3 b i = st3 b a)) = (posL b lo a (st3 b a)).filter (fun i => decide (a - i ≤ 256)) := by
    unfold posL
    have e3 : List.range' lo (a - lo) = List.range' lo (a - 256 - lo) ++ List.range' (a - min 256 a) (min 256 a) := by
      have := List.range'_append (s := lo) (m := a - 256 - lo) (n := min 256 a) (step := 1)
      rw [Nat.one_mul, show lo + (a - 256 - lo) = a - min 256 a by omega, show a - 256 - lo + min 256 a = a - lo by omega] at this
      exact this.symm
    rw [e3, List.filter_append, List.filter_append]
    have e4 : ((List.range' lo (a - 256 - lo)).filter (fun i => decide (i + 3 ≤ b.length ∧ st3 b i = st3 b a))).filter (fun i => decide (a - i ≤ 256)) = [] := by
      rw [List.filter_eq_nil_iff]
      intro i hi
      have := List.mem_range'_1.1 (List.mem_filter.1 hi).1
      simp only [decide_eq_true_eq]; omega
    rw [e4, List.nil_append]
    symm
    rw [List.filter_eq_self]
    intro i hi
    have := List.mem_range'_1.1 (List.mem_filter.1 hi).1
    simp only [decide_eq_true_eq]; omega
  rw [e2]
  simp [thr]
theorem sorted_cut {l : List Nat} {a j : Nat} (hs : l.Pairwise (· < ·)) (hj : j < l.length) (hbad : 256 < a - l.getD j 0) (hok : ∀ i ∈ l.drop (j + 1), a - i ≤ 256) : l.filter (fun i => decide (a - i ≤ 256)) = l.drop (j + 1) := by
  conv => lhs; rw [← List.take_append_drop (j + 1) l]
  rw [List.filter_append]
  have e1 : (l.take (j + 1)).filter (fun i => decide (a - i ≤ 256)) = [] := by
    rw [List.filter_eq_nil_iff]
    intro i hi
    obtain ⟨k, hk⟩ := List.getElem?_of_mem hi
    rw [List.getElem?_take] at hk
    split at hk
    · rename_i hkj
      have hkl := (List.getElem?_eq_some_iff.1 hk).1
      have hle : i ≤ l.getD j 0 := by
        rw [List.getD, List.getElem?_eq_getElem hj, Option.getD_some]
        rw [List.getElem?_eq_getElem hkl] at hk
        have hk2 := Option.some.inj hk
        by_cases e : k = j
        · subst e; omega
        · have := List.pairwise_iff_getElem.1 hs k j hkl hj (by omega); omega
      simp only [decide_eq_true_eq]; omega
    · cases hk
  rw [e1, List.nil_append, List.filter_eq_self]
  intro i hi
  simp only [decide_eq_true_eq]; exact hok i hi
theorem posL_snoc {b : List UInt8} {lo i : Nat} (a : UInt8 × UInt8 × UInt8) (hlo : lo ≤ i) (h : i + 3 ≤ b.length) : posL b lo (i + 1) a = if a = st3 b i then posL b lo i a ++ [i] else posL b lo i a := by
  unfold posL
  rw [show i + 1 - lo = (i - lo) + 1 by omega, List.range'_concat, List.filter_append, show lo + 1 * (i - lo) = i by omega]
  by_cases e : a = st3 b i
  · rw [if_pos e, List.filter_cons_of_pos (by simp [h, e])]; rfl
  · rw [if_neg e, List.filter_cons_of_neg (by simp; intro _ e2; exact e e2.symm)]; simp
theorem posL_end {b : List UInt8} {lo i j : Nat} (a : UInt8 × UInt8 × UInt8) (hlo : lo ≤ i) (h : b.length < i + 3) (hij : i ≤ j) : posL b lo j a = posL b lo i a := by
  unfold posL
  have := List.range'_append (s := lo) (m := i - lo) (n := j - i) (step := 1)
  rw [Nat.one_mul, show lo + (i - lo) = i by omega, show i - lo + (j - i) = j - lo by omega] at this
  rw [← this, List.filter_append]
  have e : (List.range' i (j - i)).filter (fun i => decide (i + 3 ≤ b.length ∧ st3 b i = a)) = [] := by
    rw [List.filter_eq_nil_iff]
    intro k hk
    have := List.mem_range'_1.1 hk
    simp only [decide_eq_true_eq]; omega
  rw [e, List.append_nil]
end Go.Proofs.YtpnfjfbfgaiolaaDoor
