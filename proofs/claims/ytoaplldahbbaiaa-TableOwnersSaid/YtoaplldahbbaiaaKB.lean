/- lz: the plain law: what is like, matches, what is packed and unpacked. No condition. -/
import Derived.WideKeyPair
import Derived.Test.YtoaplldahbbaiaaGenk
import Derived.Test.YtoaplldahbbaiaaGbk
import Derived.Test.YtoaplldahbbaiaaMpk
namespace Go.Proofs.Ytoaplldahbbaiaa
open Go Go.RowKit
set_option linter.unusedVariables false

/-! ### like -/
def CL (b : List UInt8) (a o i : Nat) : Prop := i < 130 ∧ a + i < b.length ∧ b.getD (a + i) 0 = b.getD (o + i) 0
instance (b : List UInt8) (a o i : Nat) : Decidable (CL b a o i) := by unfold CL; exact inferInstance
def likG (b : List UInt8) (a o : Nat) : Nat → Nat → Nat
  | 0, n => n
  | f + 1, n => if CL b a o n then likG b a o f (n + 1) else n
def lik (b : List UInt8) (a o : Nat) : Nat := likG b a o 131 0
theorem likG_spec (b : List UInt8) (a o : Nat) : ∀ f n, 131 ≤ n + f → (∀ i, i < n → CL b a o i) → (∀ i, i < likG b a o f n → CL b a o i) ∧ ¬ CL b a o (likG b a o f n)
  | 0, n, h, hc => by have := (hc (n - 1) (by omega)).1; omega
  | f + 1, n, h, hc => by
    unfold likG
    split
    · rename_i hn
      exact likG_spec b a o f (n + 1) (by omega) (fun i hi => by by_cases h2 : i = n; rw [h2]; exact hn; exact hc i (by omega))
    · rename_i hn; exact ⟨hc, hn⟩
theorem lik_spec (b : List UInt8) (a o : Nat) : (∀ i, i < lik b a o → CL b a o i) ∧ ¬ CL b a o (lik b a o) := likG_spec b a o 131 0 (by decide) (by intro i hi; omega)
theorem lik_eq {b : List UInt8} {a o n : Nat} (h1 : ∀ i, i < n → CL b a o i) (h2 : ¬ CL b a o n) : n = lik b a o := by
  obtain ⟨g1, g2⟩ := lik_spec b a o
  rcases Nat.lt_trichotomy n (lik b a o) with h | h | h
  · exact absurd (g1 n h) h2
  · exact h
  · exact absurd (h1 _ h) g2
theorem lik_le (b : List UInt8) (a o : Nat) : lik b a o ≤ 130 ∧ (0 < lik b a o → a + lik b a o ≤ b.length) := by
  obtain ⟨g1, _⟩ := lik_spec b a o
  refine ⟨?_, fun h => ?_⟩
  · by_cases h : 0 < lik b a o
    · have := (g1 (lik b a o - 1) (by omega)).1; omega
    · omega
  · have := (g1 (lik b a o - 1) (by omega)).2.1; omega
theorem lik_le2 (b : List UInt8) (a o : Nat) : lik b a o ≤ b.length - a := by
  have := lik_le b a o; omega

/-! ### matches -/
def stp (b : List UInt8) (a : Nat) (s : Nat × Nat) (i : Nat) : Nat × Nat := if s.1 < lik b a i then (lik b a i, a - i) else s
def thr (s : Nat × Nat) : Nat × Nat := if s.1 < 3 then (0, 0) else s
/-- the longest of the matches that are so near, and the nearest of these -/
def bst (b : List UInt8) (a k : Nat) : Nat × Nat := ((List.range' (a - k) k).reverse).foldl (stp b a) (0, 0)
def mt (b : List UInt8) (a : Nat) : Nat × Nat := if a < b.length then thr (bst b a (min 256 a)) else (0, 0)
theorem bst_succ (b : List UInt8) {a k : Nat} (h : k + 1 ≤ a) : bst b a (k + 1) = stp b a (bst b a k) (a - (k + 1)) := by
  unfold bst
  rw [List.range'_succ, List.reverse_cons, List.foldl_append, show a - (k + 1) + 1 = a - k by omega]; rfl
theorem bst_spec (b : List UInt8) (a : Nat) : ∀ k, k ≤ a → (∀ j, 1 ≤ j → j ≤ k → lik b a (a - j) ≤ (bst b a k).1) ∧
    ((bst b a k).1 = 0 ∧ (bst b a k).2 = 0 ∨ 1 ≤ (bst b a k).2 ∧ (bst b a k).2 ≤ k ∧ 0 < (bst b a k).1 ∧ lik b a (a - (bst b a k).2) = (bst b a k).1 ∧ ∀ j, 1 ≤ j → j < (bst b a k).2 → lik b a (a - j) < (bst b a k).1)
  | 0, _ => ⟨fun j h1 h2 => by omega, .inl ⟨rfl, rfl⟩⟩
  | k + 1, h => by
    obtain ⟨h1, h2⟩ := bst_spec b a k (by omega)
    rw [bst_succ b h]
    generalize bst b a k = s at h1 h2 ⊢
    unfold stp
    by_cases hs : s.1 < lik b a (a - (k + 1))
    · rw [if_pos hs]
      refine ⟨fun j j1 j2 => ?_, .inr ⟨by simp only; omega, by simp only; omega, by simp only; omega, ?_, fun j j1 j2 => ?_⟩⟩
      · by_cases e : j = k + 1
        · rw [e]; exact Nat.le_refl _
        · exact Nat.le_of_lt (Nat.lt_of_le_of_lt (h1 j j1 (by omega)) hs)
      · simp only
        rw [show a - (a - (k + 1)) = k + 1 by omega]
      · exact Nat.lt_of_le_of_lt (h1 j j1 (by simp only at j2; omega)) hs
    · rw [if_neg hs]
      refine ⟨fun j j1 j2 => ?_, ?_⟩
      · by_cases e : j = k + 1
        · rw [e]; omega
        · exact h1 j j1 (by omega)
      · rcases h2 with h2 | ⟨c1, c2, c3, c4, c5⟩
        · exact .inl h2
        · exact .inr ⟨c1, by omega, c3, c4, c5⟩
theorem bst_le (b : List UInt8) (a k : Nat) (h : k ≤ a) : (bst b a k).1 ≤ 130 ∧ (bst b a k).1 ≤ b.length - a := by
  rcases (bst_spec b a k h).2 with ⟨e, _⟩ | ⟨_, _, _, e, _⟩
  · omega
  · rw [← e]; exact ⟨(lik_le _ _ _).1, lik_le2 _ _ _⟩
/-- a match is one -/
theorem mt_spec {b : List UInt8} {a : Nat} (h : (mt b a).1 ≠ 0) : a < b.length ∧ 3 ≤ (mt b a).1 ∧ (mt b a).1 ≤ 130 ∧ a + (mt b a).1 ≤ b.length ∧ 1 ≤ (mt b a).2 ∧ (mt b a).2 ≤ 256 ∧ (mt b a).2 ≤ a ∧
    lik b a (a - (mt b a).2) = (mt b a).1 ∧ ∀ j, 1 ≤ j → j < (mt b a).2 → lik b a (a - j) < (mt b a).1 := by
  unfold mt at h ⊢
  by_cases hb : a < b.length
  · rw [if_pos hb] at h ⊢
    unfold thr at h ⊢
    by_cases h3 : (bst b a (min 256 a)).1 < 3
    · rw [if_pos h3] at h; exact absurd rfl h
    · rw [if_neg h3] at h ⊢
      have hl := bst_le b a (min 256 a) (by omega)
      rcases (bst_spec b a (min 256 a) (by omega)).2 with ⟨e, _⟩ | ⟨c1, c2, c3, c4, c5⟩
      · omega
      · exact ⟨hb, by omega, hl.1, by omega, c1, by omega, by omega, c4, c5⟩
  · rw [if_neg hb] at h; exact absurd rfl h
theorem mt_zero {b : List UInt8} {a : Nat} (h : (mt b a).1 = 0) : mt b a = (0, 0) := by
  unfold mt thr at h ⊢
  split
  · rename_i hb
    rw [if_pos hb] at h
    split
    · rfl
    · rename_i h3; rw [if_neg h3] at h; omega
  · rfl
theorem mt_short {b : List UInt8} {a : Nat} (h : b.length < a + 3) : mt b a = (0, 0) := by
  apply mt_zero
  apply Classical.byContradiction
  intro hn
  have := mt_spec hn
  omega

/-! by places that begin likewise -/
def st3 (b : List UInt8) (i : Nat) : UInt8 × UInt8 × UInt8 := (b.getD i 0, b.getD (i + 1) 0, b.getD (i + 2) 0)
def posL (b : List UInt8) (lo hi : Nat) (a : UInt8 × UInt8 × UInt8) : List Nat := (List.range' lo (hi - lo)).filter (fun i => decide (i + 3 ≤ b.length ∧ st3 b i = a))
theorem lik_three {b : List UInt8} {a i : Nat} (h : a + 3 ≤ b.length) : 3 ≤ lik b a i ↔ st3 b i = st3 b a := by
  obtain ⟨g1, g2⟩ := lik_spec b a i
  constructor
  · intro h3
    have c0 := (g1 0 (by omega)).2.2
    have c1 := (g1 1 (by omega)).2.2
    have c2 := (g1 2 (by omega)).2.2
    unfold st3
    rw [Nat.add_zero, Nat.add_zero] at c0
    rw [c0, c1, c2]
  · intro e
    unfold st3 at e
    simp only [Prod.mk.injEq] at e
    apply Classical.byContradiction
    intro hn
    apply g2
    refine ⟨by omega, by omega, ?_⟩
    have : lik b a i = 0 ∨ lik b a i = 1 ∨ lik b a i = 2 := by omega
    rcases this with e1 | e1 | e1 <;> rw [e1]
    · exact e.1.symm
    · exact e.2.1.symm
    · exact e.2.2.symm
theorem thr_fold {b : List UInt8} {a : Nat} {p : Nat → Bool} : ∀ (L : List Nat) (s : Nat × Nat), (∀ i ∈ L, p i = true ↔ 3 ≤ lik b a i) → thr (L.foldl (stp b a) s) = (L.filter p).foldl (stp b a) (thr s)
  | [], s, _ => rfl
  | i :: r, s, h => by
    have ih := thr_fold r (stp b a s i) (fun j hj => h j (by simp [hj]))
    have hi := h i (by simp)
    rw [List.foldl_cons, ih]
    by_cases hp : 3 ≤ lik b a i
    · rw [List.filter_cons_of_pos (hi.2 hp), List.foldl_cons]
      congr 1
      have e : thr (lik b a i, a - i) = (lik b a i, a - i) := by unfold thr; rw [if_neg (by show ¬ lik b a i < 3; omega)]
      by_cases h3 : s.1 < 3
      · have e1 : stp b a s i = (lik b a i, a - i) := by unfold stp; rw [if_pos (by omega)]
        have e2 : thr s = (0, 0) := by unfold thr; rw [if_pos h3]
        rw [e1, e2, e]; unfold stp; rw [if_pos (by show 0 < lik b a i; omega)]
      · have e2 : thr s = s := by unfold thr; rw [if_neg h3]
        rw [e2]
        by_cases h4 : s.1 < lik b a i
        · have e1 : stp b a s i = (lik b a i, a - i) := by unfold stp; rw [if_pos h4]
          rw [e1, e]
        · have e1 : stp b a s i = s := by unfold stp; rw [if_neg h4]
          rw [e1, e2]
    · rw [List.filter_cons_of_neg (fun e => hp (hi.1 e))]
      congr 1
      by_cases h3 : s.1 < lik b a i
      · have e1 : stp b a s i = (lik b a i, a - i) := by unfold stp; rw [if_pos h3]
        rw [e1]; unfold thr; rw [if_pos (by show lik b a i < 3; omega), if_pos (by omega)]
      · have e1 : stp b a s i = s := by unfold stp; rw [if_neg h3]
        rw [e1]
theorem posL_sorted (b : List UInt8) (lo hi : Nat) (a : UInt8 × UInt8 × UInt8) : (posL b lo hi a).Pairwise (· < ·) := (List.pairwise_lt_range' (s := lo) (n := hi - lo)).filter _
theorem posL_mem {b : List UInt8} {lo hi i : Nat} {a : UInt8 × UInt8 × UInt8} : i ∈ posL b lo hi a ↔ lo ≤ i ∧ i < hi ∧ i + 3 ≤ b.length ∧ st3 b i = a := by
  unfold posL
  rw [List.mem_filter, List.mem_range'_1]
  simp only [decide_eq_true_eq]
  constructor
  · rintro ⟨⟨h1, h2⟩, h3⟩; exact ⟨h1, by omega, h3⟩
  · rintro ⟨h1, h2, h3⟩; exact ⟨⟨h1, by omega⟩, h3⟩
theorem posL_len (b : List UInt8) (lo hi : Nat) (a : UInt8 × UInt8 × UInt8) : (posL b lo hi a).length ≤ hi - lo := by
  have := List.length_filter_le (fun i => decide (i + 3 ≤ b.length ∧ st3 b i = a)) (List.range' lo (hi - lo))
  unfold posL; simpa using this
theorem mt_pos {b : List UInt8} {lo a : Nat} (h : a + 3 ≤ b.length) (hlo : lo ≤ a - 256) :
    mt b a = (((posL b lo a (st3 b a)).filter (fun i => decide (a - i ≤ 256))).reverse).foldl (stp b a) (0, 0) := by
  have e1 : mt b a = thr (bst b a (min 256 a)) := by unfold mt; rw [if_pos (by omega)]
  rw [e1]
  unfold bst
  rw [thr_fold (p := fun i => decide (i + 3 ≤ b.length ∧ st3 b i = st3 b a)) _ _ (fun i hi => by
    rw [List.mem_reverse, List.mem_range'_1] at hi
    rw [decide_eq_true_iff, lik_three h]
    exact ⟨fun g => g.2, fun g => ⟨by omega, g⟩⟩)]
  rw [List.filter_reverse]
  have e2 : (List.range' (a - min 256 a) (min 256 a)).filter (fun i => decide (i + 3 ≤ b.length ∧ st3 b i = st3 b a)) = (posL b lo a (st3 b a)).filter (fun i => decide (a - i ≤ 256)) := by
    unfold posL
    have e3 : List.range' lo (a - lo) = List.range' lo (a - 256 - lo) ++ List.range' (a - min 256 a) (min 256 a) := by
      have := List.range'_append (s := lo) (m := a - 256 - lo) (n := min 256 a) (step := 1)
      rw [Nat.one_mul, show lo + (a - 256 - lo) = a - min 256 a by omega, show a - 256 - lo + min 256 a = a - lo by omega] at this
      exact this.symm
    rw [e3, List.filter_append, List.filter_append]
    have e4 : ((List.range' lo (a - 256 - lo)).filter (fun i => decide (i + 3 ≤ b.length ∧ st3 b i = st3 b a))).filter (fun i => decide (a - i ≤ 256)) = [] := by
      rw [List.filter_eq_nil_iff]
      intro i hi
      have := List.mem_range'_1.1 (List.mem_filter.1 hi).1
      simp only [decide_eq_true_eq]; omega
    rw [e4, List.nil_append]
    symm
    rw [List.filter_eq_self]
    intro i hi
    have := List.mem_range'_1.1 (List.mem_filter.1 hi).1
    simp only [decide_eq_true_eq]; omega
  rw [e2]
  simp [thr]
theorem sorted_cut {l : List Nat} {a j : Nat} (hs : l.Pairwise (· < ·)) (hj : j < l.length) (hbad : 256 < a - l.getD j 0) (hok : ∀ i ∈ l.drop (j + 1), a - i ≤ 256) : l.filter (fun i => decide (a - i ≤ 256)) = l.drop (j + 1) := by
  conv => lhs; rw [← List.take_append_drop (j + 1) l]
  rw [List.filter_append]
  have e1 : (l.take (j + 1)).filter (fun i => decide (a - i ≤ 256)) = [] := by
    rw [List.filter_eq_nil_iff]
    intro i hi
    obtain ⟨k, hk⟩ := List.getElem?_of_mem hi
    rw [List.getElem?_take] at hk
    split at hk
    · rename_i hkj
      have hkl := (List.getElem?_eq_some_iff.1 hk).1
      have hle : i ≤ l.getD j 0 := by
        rw [List.getD, List.getElem?_eq_getElem hj, Option.getD_some]
        rw [List.getElem?_eq_getElem hkl] at hk
        have hk2 := Option.some.inj hk
        by_cases e : k = j
        · subst e; omega
        · have := List.pairwise_iff_getElem.1 hs k j hkl hj (by omega); omega
      simp only [decide_eq_true_eq]; omega
    · cases hk
  rw [e1, List.nil_append, List.filter_eq_self]
  intro i hi
  simp only [decide_eq_true_eq]; exact hok i hi
theorem posL_snoc {b : List UInt8} {lo i : Nat} (a : UInt8 × UInt8 × UInt8) (hlo : lo ≤ i) (h : i + 3 ≤ b.length) : posL b lo (i + 1) a = if a = st3 b i then posL b lo i a ++ [i] else posL b lo i a := by
  unfold posL
  rw [show i + 1 - lo = (i - lo) + 1 by omega, List.range'_concat, List.filter_append, show lo + 1 * (i - lo) = i by omega]
  by_cases e : a = st3 b i
  · rw [if_pos e, List.filter_cons_of_pos (by simp [h, e])]; rfl
  · rw [if_neg e, List.filter_cons_of_neg (by simp; intro _ e2; exact e e2.symm)]; simp
theorem posL_end {b : List UInt8} {lo i j : Nat} (a : UInt8 × UInt8 × UInt8) (hlo : lo ≤ i) (h : b.length < i + 3) (hij : i ≤ j) : posL b lo j a = posL b lo i a := by
  unfold posL
  have := List.range'_append (s := lo) (m := i - lo) (n := j - i) (step := 1)
  rw [Nat.one_mul, show lo + (i - lo) = i by omega, show i - lo + (j - i) = j - lo by omega] at this
  rw [← this, List.filter_append]
  have e : (List.range' i (j - i)).filter (fun i => decide (i + 3 ≤ b.length ∧ st3 b i = a)) = [] := by
    rw [List.filter_eq_nil_iff]
    intro k hk
    have := List.mem_range'_1.1 hk
    simp only [decide_eq_true_eq]; omega
  rw [e, List.append_nil]
end Go.Proofs.Ytoaplldahbbaiaa
/- lz: the plain law: what is packed, unpacked; that what was packed is unpacked as it was; how long it is. No condition. -/
namespace Go.Proofs.Ytoaplldahbbaiaa
open Go Go.RowKit
set_option linter.unusedVariables false

/-! ### runs, packing -/
def rn (out l : List UInt8) : List UInt8 :=
  if h : l.length = 0 then out else rn (out ++ (UInt8.ofNat (min l.length 128 - 1) :: l.take (min l.length 128))) (l.drop (min l.length 128))
termination_by l.length
decreasing_by simp; omega
theorem rn_nil (out : List UInt8) : rn out [] = out := by rw [rn]; rfl
theorem rn_step {out l : List UInt8} (h : 0 < l.length) : rn out l = rn (out ++ (UInt8.ofNat (min l.length 128 - 1) :: l.take (min l.length 128))) (l.drop (min l.length 128)) := by
  rw [rn, dif_neg (by omega)]
def pk (b : List UInt8) (a : Nat) (run out : List UInt8) : List UInt8 :=
  if h : a < b.length then
    if hn : (mt b a).1 = 0 then pk b (a + 1) (run ++ [b.getD a 0]) out
    else pk b (a + (mt b a).1) [] (rn out run ++ [UInt8.ofNat ((mt b a).1 + 125), UInt8.ofNat ((mt b a).2 - 1)])
  else rn out run
termination_by b.length - a
def pkS (b : List UInt8) : List UInt8 := pk b 0 [] []
theorem pk_end {b : List UInt8} {a : Nat} (h : ¬ a < b.length) (run out : List UInt8) : pk b a run out = rn out run := by rw [pk, dif_neg h]
theorem pk_one {b : List UInt8} {a : Nat} (h : a < b.length) (hn : (mt b a).1 = 0) (run out : List UInt8) : pk b a run out = pk b (a + 1) (run ++ [b.getD a 0]) out := by rw [pk, dif_pos h, dif_pos hn]
theorem pk_copy {b : List UInt8} {a : Nat} (hn : (mt b a).1 ≠ 0) (run out : List UInt8) : pk b a run out = pk b (a + (mt b a).1) [] (rn out run ++ [UInt8.ofNat ((mt b a).1 + 125), UInt8.ofNat ((mt b a).2 - 1)]) := by
  rw [pk, dif_pos (mt_spec hn).1, dif_neg hn]

/-! ### unpacking -/
def cp (out : List UInt8) (back : Nat) : Nat → List UInt8
  | 0 => out
  | n + 1 => cp (out ++ [out.getD (out.length - back) 0]) back n
def up (most : Int) (b out : List UInt8) : List UInt8 × Int :=
  match b with
  | [] => (out, 0)
  | t :: r =>
    if t.toNat < 128 then
      if r.length < t.toNat + 1 then ([], 2)
      else if most - out.length < t.toNat + 1 then ([], 3)
      else up most (r.drop (t.toNat + 1)) (out ++ r.take (t.toNat + 1))
    else match r with
      | [] => ([], 2)
      | c :: r' => if out.length < c.toNat + 1 then ([], 2) else if most - out.length < (t.toNat : Int) - 125 then ([], 3) else up most r' (cp out (c.toNat + 1) (t.toNat - 125))
termination_by b.length
decreasing_by
  · simp; omega
  · simp; omega
def upS (b : List UInt8) (most : Int) : List UInt8 × Int := if most < 0 then ([], 1) else up most b []
theorem up_nil (most : Int) (out : List UInt8) : up most [] out = (out, 0) := by rw [up]
theorem up_run {most : Int} {t : UInt8} {r out : List UInt8} (h : t.toNat < 128) : up most (t :: r) out = if r.length < t.toNat + 1 then ([], 2) else if most - out.length < t.toNat + 1 then ([], 3) else up most (r.drop (t.toNat + 1)) (out ++ r.take (t.toNat + 1)) := by
  rw [up.eq_def]
  simp only
  rw [if_pos h]
theorem up_copy0 {most : Int} {t : UInt8} {out : List UInt8} (h : ¬ t.toNat < 128) : up most [t] out = ([], 2) := by rw [up, if_neg h]
theorem up_copy {most : Int} {t c : UInt8} {r out : List UInt8} (h : ¬ t.toNat < 128) : up most (t :: c :: r) out = if out.length < c.toNat + 1 then ([], 2) else if most - out.length < (t.toNat : Int) - 125 then ([], 3) else up most r (cp out (c.toNat + 1) (t.toNat - 125)) := by
  rw [up, if_neg h]
theorem cp_len (back : Nat) : ∀ (n : Nat) (out : List UInt8), (cp out back n).length = out.length + n
  | 0, out => rfl
  | n + 1, out => by unfold cp; rw [cp_len back n]; simp; omega
theorem cp_snoc (back : Nat) : ∀ (n : Nat) (out : List UInt8), cp out back (n + 1) = cp out back n ++ [(cp out back n).getD ((cp out back n).length - back) 0]
  | 0, out => rfl
  | n + 1, out => by
    have h := cp_snoc back n (out ++ [out.getD (out.length - back) 0])
    exact h
theorem cp_pre (back : Nat) (pre : List UInt8) : ∀ (n : Nat) (out : List UInt8), back ≤ out.length → 1 ≤ back → cp (pre ++ out) back n = pre ++ cp out back n
  | 0, out, _, _ => rfl
  | n + 1, out, h, h1 => by
    unfold cp
    have e : (pre ++ out).getD ((pre ++ out).length - back) 0 = out.getD (out.length - back) 0 := by
      rw [List.getD, List.getD, List.length_append, List.getElem?_append_right (by omega)]; congr 2; omega
    rw [e, List.append_assoc, cp_pre back pre n _ (by simp; omega) h1]
theorem cp_ext (back : Nat) : ∀ (n : Nat) (out : List UInt8), ∃ l, cp out back n = out ++ l
  | 0, out => ⟨[], by simp [cp]⟩
  | n + 1, out => by
    obtain ⟨l, hl⟩ := cp_ext back n (out ++ [out.getD (out.length - back) 0])
    exact ⟨_, by unfold cp; rw [hl, List.append_assoc]⟩
theorem cp_match {b : List UInt8} {a back : Nat} (h1 : 1 ≤ back) (hb : back ≤ a) : ∀ n, (∀ i, i < n → CL b a (a - back) i) → cp (b.take a) back n = b.take (a + n)
  | 0, _ => rfl
  | n + 1, h => by
    rw [cp_snoc, cp_match h1 hb n (fun i hi => h i (by omega))]
    obtain ⟨c1, c2, c3⟩ := h n (by omega)
    have e1 : (b.take (a + n)).length = a + n := by rw [List.length_take]; omega
    rw [e1, ← Nat.add_assoc, List.take_succ_eq_append_getElem (by omega)]
    congr 2
    have e2 : (b.take (a + n)).getD (a + n - back) 0 = b.getD (a + n - back) 0 := by rw [List.getD, List.getD, List.getElem?_take, if_pos (by omega)]
    rw [e2, show a + n - back = a - back + n by omega, ← c3]
    rw [List.getD, List.getElem?_eq_getElem c2]; rfl

/-! ### rows of tokens -/
/-- x are tokens that lead from o0 to o1, behind whatever; a part of them leads to a part, or is none -/
structure En (x o0 o1 : List UInt8) : Prop where
  pre : ∃ l, o1 = o0 ++ l
  yes : ∀ (p rest : List UInt8) (most : Int), (p.length : Int) + o1.length ≤ most → up most (x ++ rest) (p ++ o0) = up most rest (p ++ o1)
  big : ∀ (p rest : List UInt8) (most : Int), (p.length : Int) + o0.length ≤ most → most < (p.length : Int) + o1.length → up most (x ++ rest) (p ++ o0) = ([], 3)
  cut : ∀ (p : List UInt8) (most : Int) (n : Nat), (p.length : Int) + o1.length ≤ most → n < x.length → up most (x.take n) (p ++ o0) = ([], 2) ∨ ∃ o l, o1 = o ++ l ∧ up most (x.take n) (p ++ o0) = (p ++ o, 0)
theorem En.nil (o : List UInt8) : En [] o o := ⟨⟨[], by simp⟩, fun _ _ _ _ => rfl, fun _ _ _ h1 h2 => by omega, fun _ _ _ _ h => by simp at h⟩
theorem En.trans {x y a b c : List UInt8} (h : En x a b) (k : En y b c) : En (x ++ y) a c := by
  obtain ⟨l1, hl1⟩ := h.pre
  obtain ⟨l2, hl2⟩ := k.pre
  have e1 : b.length = a.length + l1.length := by rw [hl1]; simp
  have e2 : c.length = b.length + l2.length := by rw [hl2]; simp
  refine ⟨⟨l1 ++ l2, by rw [hl2, hl1]; simp⟩, fun p rest most hm => ?_, fun p rest most h1 h2 => ?_, fun p most n hm hn => ?_⟩
  · rw [List.append_assoc, h.yes p _ most (by omega), k.yes p rest most hm]
  · rw [List.append_assoc]
    by_cases hb : (p.length : Int) + b.length ≤ most
    · rw [h.yes p _ most hb, k.big p rest most hb h2]
    · exact h.big p _ most h1 (by omega)
  · rw [List.length_append] at hn
    by_cases hx : n < x.length
    · rw [List.take_append_of_le_length (by omega)]
      rcases h.cut p most n (by omega) hx with h1 | ⟨o, l, h1, h2⟩
      · exact .inl h1
      · exact .inr ⟨o, l ++ l2, by rw [hl2, h1]; simp, h2⟩
    · rw [List.take_append, List.take_of_length_le (by omega : x.length ≤ n), h.yes p _ most (by omega)]
      exact k.cut p most _ hm (by omega)
theorem En.run {l : List UInt8} (o : List UInt8) (h0 : 0 < l.length) (h1 : l.length ≤ 128) : En (UInt8.ofNat (l.length - 1) :: l) o (o ++ l) := by
  have ht : (UInt8.ofNat (l.length - 1)).toNat = l.length - 1 := by rw [UInt8.toNat_ofNat']; omega
  have ht2 : l.length - 1 + 1 = l.length := by omega
  refine ⟨⟨l, rfl⟩, fun p rest most hm => ?_, fun p rest most h1 h2 => ?_, fun p most n hm hn => ?_⟩
  · rw [List.length_append] at hm
    rw [List.cons_append, up_run (by omega), ht, ht2, if_neg (by simp), if_neg (by simp; omega), List.drop_left' rfl, List.take_left' rfl, List.append_assoc]
  · rw [List.length_append] at h2
    rw [List.cons_append, up_run (by omega), ht, ht2, if_neg (by simp), if_pos (by simp; omega)]
  · cases n with
    | zero => exact .inr ⟨o, l, rfl, by rw [List.take_zero, up_nil]⟩
    | succ n =>
      rw [List.length_cons] at hn
      left
      rw [List.take_succ_cons, up_run (by omega), ht, ht2, if_pos (by rw [List.length_take]; omega)]
theorem En.copy {o : List UInt8} {n back : Nat} (h3 : 3 ≤ n) (hn : n ≤ 130) (h1 : 1 ≤ back) (h2 : back ≤ 256) (hb : back ≤ o.length) : En [UInt8.ofNat (n + 125), UInt8.ofNat (back - 1)] o (cp o back n) := by
  have ht : (UInt8.ofNat (n + 125)).toNat = n + 125 := by rw [UInt8.toNat_ofNat']; omega
  have hc : (UInt8.ofNat (back - 1)).toNat = back - 1 := by rw [UInt8.toNat_ofNat']; omega
  have hc2 : back - 1 + 1 = back := by omega
  have hl := cp_len back n o
  obtain ⟨l, he⟩ := cp_ext back n o
  refine ⟨⟨l, he⟩, fun p rest most hm => ?_, fun p rest most h1 h2 => ?_, fun p most k hm hk => ?_⟩
  · rw [List.cons_append, List.cons_append, List.nil_append, up_copy (by omega), ht, hc, hc2, if_neg (by simp; omega), if_neg (by simp; omega), show n + 125 - 125 = n by omega, cp_pre _ _ _ _ hb h1]
  · rw [List.cons_append, List.cons_append, List.nil_append, up_copy (by omega), ht, hc, hc2, if_neg (by simp; omega), if_pos (by simp; omega)]
  · match k, hk with
    | 0, _ => exact .inr ⟨o, l, he, by rw [List.take_zero, up_nil]⟩
    | 1, _ => exact .inl (by show up most [UInt8.ofNat (n + 125)] _ = _; rw [up_copy0 (by omega)])
theorem En.rn : ∀ (k : Nat) (l out o0 o : List UInt8), l.length = k → En out o0 o → En (rn out l) o0 (o ++ l) := by
  intro k
  induction k using Nat.strongRecOn with
  | ind k ih =>
    intro l out o0 o hk h
    by_cases h0 : l.length = 0
    · have : l = [] := List.eq_nil_of_length_eq_zero h0
      subst this
      rw [rn_nil, List.append_nil]; exact h
    · rw [rn_step (by omega)]
      have hm : (l.take (min l.length 128)).length = min l.length 128 := by rw [List.length_take]; omega
      have ht := En.run (l := l.take (min l.length 128)) o (by omega) (by omega)
      rw [hm] at ht
      have := ih _ (by omega) (l.drop (min l.length 128)) _ o0 _ (List.length_drop ..) (h.trans ht)
      rwa [List.append_assoc, List.take_append_drop] at this
theorem En.pk (b : List UInt8) : ∀ (k a : Nat) (run out o : List UInt8), b.length - a = k → a ≤ b.length → En out [] o → o ++ run = b.take a → En (pk b a run out) [] b := by
  intro k
  induction k using Nat.strongRecOn with
  | ind k ih =>
    intro a run out o hk ha h ho
    by_cases hlt : a < b.length
    · by_cases hn : (mt b a).1 = 0
      · rw [pk_one hlt hn]
        refine ih (b.length - (a + 1)) (by omega) (a + 1) _ out o rfl (by omega) h ?_
        rw [← List.append_assoc, ho, List.take_succ_eq_append_getElem hlt, List.getD, List.getElem?_eq_getElem hlt]; rfl
      · rw [pk_copy hn]
        obtain ⟨m1, m2, m3, m4, m5, m6, m7, m8, m9⟩ := mt_spec hn
        have hr := En.rn run.length run out [] o rfl h
        rw [ho] at hr
        have hl : (b.take a).length = a := by rw [List.length_take]; omega
        have hc := En.copy (o := b.take a) m2 m3 m5 m6 (by omega)
        rw [cp_match m5 m7 _ (fun i hi => (lik_spec b a _).1 i (by rw [m8]; exact hi))] at hc
        exact ih _ (by omega) _ [] _ _ rfl m4 (hr.trans hc) (by simp)
    · rw [pk_end hlt]
      have hr := En.rn run.length run out [] o rfl h
      rw [ho, List.take_of_length_le (by omega)] at hr
      exact hr
theorem En.pkS (b : List UInt8) : En (pkS b) [] b := En.pk b _ 0 [] [] [] rfl (Nat.zero_le _) (En.nil _) (by simp)

theorem unpack_pack (b : List UInt8) : upS (pkS b) b.length = (b, 0) := by
  have h := (En.pkS b).yes [] [] b.length (by simp)
  unfold upS
  rw [if_neg (by omega)]
  simpa [up_nil] using h
theorem unpack_less (b : List UInt8) : upS (pkS b) ((b.length : Int) - 1) = ([], if b.length = 0 then 1 else 3) := by
  unfold upS
  by_cases h0 : b.length = 0
  · rw [if_pos (by omega), if_pos h0]
  · rw [if_neg (by omega), if_neg h0]
    have h := (En.pkS b).big [] [] ((b.length : Int) - 1) (by simp; omega) (by simp; omega)
    simpa using h
theorem unpack_two (a b : List UInt8) : upS (pkS a ++ pkS b) ((a.length : Int) + b.length) = (a ++ b, 0) := by
  unfold upS
  rw [if_neg (by omega)]
  have h1 := (En.pkS a).yes [] (pkS b) ((a.length : Int) + b.length) (by simp; omega)
  have h2 := (En.pkS b).yes a [] ((a.length : Int) + b.length) (by omega)
  simp only [List.nil_append, List.append_nil, up_nil] at h1 h2
  rw [h1, h2]
theorem unpack_cut (a : List UInt8) {n : Nat} (h : n < (pkS a).length) : upS ((pkS a).take n) a.length = ([], 2) ∨ ∃ o l, a = o ++ l ∧ upS ((pkS a).take n) a.length = (o, 0) := by
  unfold upS
  rw [if_neg (by omega)]
  simpa using (En.pkS a).cut [] a.length n (by simp) h

/-! ### how long it is -/
theorem rn_len : ∀ (k : Nat) (l out : List UInt8), l.length = k → (rn out l).length = out.length + l.length + (l.length + 127) / 128 := by
  intro k
  induction k using Nat.strongRecOn with
  | ind k ih =>
    intro l out hk
    by_cases h0 : l.length = 0
    · have : l = [] := List.eq_nil_of_length_eq_zero h0
      subst this
      rw [rn_nil]; simp
    · rw [rn_step (by omega), ih _ (by omega) _ _ (List.length_drop ..)]
      simp only [List.length_append, List.length_cons, List.length_take, List.length_drop]
      omega
theorem pk_len (b : List UInt8) : ∀ (k a : Nat) (run out : List UInt8), b.length - a = k → a ≤ b.length → run.length ≤ a → out.length ≤ (a - run.length) + (a - run.length) / 128 → (pk b a run out).length ≤ b.length + (b.length + 127) / 128 := by
  intro k
  induction k using Nat.strongRecOn with
  | ind k ih =>
    intro a run out hk ha hr ho
    by_cases hlt : a < b.length
    · by_cases hn : (mt b a).1 = 0
      · rw [pk_one hlt hn]
        refine ih (b.length - (a + 1)) (by omega) (a + 1) _ out rfl (by omega) (by simp; omega) ?_
        rw [List.length_append, List.length_singleton, show a + 1 - (run.length + 1) = a - run.length by omega]; exact ho
      · rw [pk_copy hn]
        obtain ⟨m1, m2, m3, m4, m5, m6, m7, m8, m9⟩ := mt_spec hn
        refine ih _ (by omega) _ [] _ rfl m4 (by simp) ?_
        rw [List.length_append, rn_len _ _ _ rfl]
        simp only [List.length_cons, List.length_nil, Nat.sub_zero]
        omega
    · rw [pk_end hlt, rn_len _ _ _ rfl]
      omega
theorem pkS_len (b : List UInt8) : (pkS b).length ≤ b.length + (b.length + 127) / 128 := pk_len b _ 0 [] [] rfl (Nat.zero_le _) (by simp) (by simp)

/-! bytes that are all the same -/
theorem same_get {c : UInt8} {k i : Nat} (h : i < k) : (List.replicate k c).getD i 0 = c := by rw [List.getD, List.getElem?_replicate, if_pos h]; rfl
theorem same_lik {c : UInt8} {k a o : Nat} (ho : o < a) (ha : a ≤ k) : lik (List.replicate k c) a o = min 130 (k - a) := by
  refine (lik_eq (fun i hi => ⟨by omega, by simp; omega, by rw [same_get (by omega), same_get (by omega)]⟩) (fun h => ?_)).symm
  have h1 := h.1
  have h2 := h.2.1
  simp at h2
  omega
theorem same_bst {c : UInt8} {k a : Nat} (ha : a < k) : ∀ j, 1 ≤ j → j ≤ a → bst (List.replicate k c) a j = (min 130 (k - a), 1)
  | 0, h, _ => by omega
  | j + 1, _, hj => by
    rw [bst_succ _ hj]
    by_cases h0 : j = 0
    · subst h0
      unfold stp
      rw [same_lik (by omega) (by omega)]
      show (if (0 : Nat) < _ then _ else _) = _
      rw [if_pos (by omega), show a - (a - (0 + 1)) = 1 by omega]
    · rw [same_bst ha j (by omega) (by omega)]
      unfold stp
      rw [same_lik (by omega) (by omega), if_neg (by simp only; omega)]
theorem same_mt {c : UInt8} {k a : Nat} (h1 : 1 ≤ a) (ha : a + 3 ≤ k) : mt (List.replicate k c) a = (min 130 (k - a), 1) := by
  unfold mt thr
  rw [if_pos (by simp; omega), same_bst (by omega) _ (by omega) (by omega), if_neg (by simp only; omega)]
theorem same_tail {c : UInt8} {k : Nat} : ∀ (m a : Nat) (run out : List UInt8), k - a = m → m < 3 → a ≤ k → run.length ≤ 1 → (pk (List.replicate k c) a run out).length ≤ out.length + (if m + run.length = 0 then 0 else m + run.length + 1)
  | 0, a, run, out, h, _, ha, hr => by
    rw [pk_end (by simp; omega), rn_len _ _ _ rfl]
    split <;> omega
  | 1, a, run, out, h, _, ha, hr => by
    rw [pk_one (by simp; omega) (by rw [mt_short (by simp; omega)]), pk_end (by simp; omega), rn_len _ _ _ rfl]
    simp only [List.length_append, List.length_cons, List.length_nil]
    split <;> omega
  | 2, a, run, out, h, _, ha, hr => by
    rw [pk_one (by simp; omega) (by rw [mt_short (by simp; omega)]), pk_one (by simp; omega) (by rw [mt_short (by simp; omega)]), pk_end (by simp; omega), rn_len _ _ _ rfl]
    simp only [List.length_append, List.length_cons, List.length_nil]
    split <;> omega
  | m + 3, _, _, _, _, h, _, _ => by omega
theorem same_len {c : UInt8} {k : Nat} : ∀ (m a : Nat) (out : List UInt8), k - a = m → 1 ≤ a → a ≤ k → (pk (List.replicate k c) a [] out).length ≤ out.length + 2 * (m / 130) + (if m % 130 = 0 then 0 else 3) := by
  intro m
  induction m using Nat.strongRecOn with
  | ind m ih =>
    intro a out hm h1 ha
    by_cases h3 : 3 ≤ m
    · have e := same_mt (c := c) h1 (show a + 3 ≤ k by omega)
      rw [pk_copy (by rw [e]; simp only; omega), e, rn_nil]
      simp only
      have := ih (k - (a + min 130 (k - a))) (by omega) (a + min 130 (k - a)) (out ++ [UInt8.ofNat (min 130 (k - a) + 125), UInt8.ofNat (1 - 1)]) rfl (by omega) (by omega)
      rw [List.length_append] at this
      simp only [List.length_cons, List.length_nil] at this
      refine Nat.le_trans this ?_
      by_cases hb : 130 ≤ m
      · rw [show k - (a + min 130 (k - a)) = m - 130 by omega, show (m - 130) % 130 = m % 130 by omega]; omega
      · rw [show k - (a + min 130 (k - a)) = 0 by omega, if_neg (show ¬ m % 130 = 0 by omega)]; simp; omega
    · have := same_tail (c := c) m a [] out hm (by omega) ha (by simp)
      refine Nat.le_trans this ?_
      by_cases h0 : m = 0
      · subst h0; simp
      · rw [if_neg (by simp; omega), if_neg (by omega)]; simp; omega
theorem same_short (c : UInt8) (k : Nat) : (pkS (List.replicate k c)).length ≤ 6 + 2 * (k / 130) + 2 := by
  by_cases h0 : k = 0
  · subst h0; unfold pkS; rw [pk_end (by simp), rn_nil]; simp
  · unfold pkS
    have e0 : (mt (List.replicate k c) 0).1 = 0 := by
      apply Classical.byContradiction
      intro h
      have := mt_spec h
      omega
    rw [pk_one (by simp; omega) e0]
    by_cases h3 : 3 ≤ k - 1
    · have e := same_mt (c := c) (a := 1) (Nat.le_refl _) (show 1 + 3 ≤ k by omega)
      rw [show 0 + 1 = 1 from rfl, pk_copy (by rw [e]; simp only; omega), e]
      simp only
      have := same_len (c := c) (k := k) _ (1 + min 130 (k - 1)) (rn [] ([] ++ [(List.replicate k c).getD 0 0]) ++ [UInt8.ofNat (min 130 (k - 1) + 125), UInt8.ofNat (1 - 1)]) rfl (by omega) (by omega)
      refine Nat.le_trans this ?_
      rw [List.length_append, rn_len _ _ _ rfl]
      simp only [List.length_append, List.length_cons, List.length_nil]
      split <;> omega
    · have := same_tail (c := c) (k := k) (k - 1) 1 ([] ++ [(List.replicate k c).getD 0 0]) [] rfl (by omega) (by omega) (by simp)
      refine Nat.le_trans this ?_
      simp only [List.length_append, List.length_cons, List.length_nil]
      split <;> omega
end Go.Proofs.Ytoaplldahbbaiaa
/- lz: what is like, runs, what is unpacked: the program's and the reference's. No condition beyond the bounds that each states. -/
namespace Go.Proofs.Ytoaplldahbbaiaa
open Go Go.RowKit
set_option linter.unusedVariables false

theorem cl_byte {b : List UInt8} {a o k : Nat} (h : ((b.getD (a + k) 0).toNat : Int) = ((b.getD (o + k) 0).toNat : Int)) : b.getD (a + k) 0 = b.getD (o + k) 0 := UInt8.toNat_inj.1 (by omega)

set_option maxHeartbeats 400000 in
theorem like_ok (ao : Option Addr) (cap : Nat) (b : List UInt8) (a o : Nat) (W : World) (hv : Vw b8 W.heap ao cap b) (h1 : a ≤ b.length) (h2 : o < a) (hb : b.length ≤ 1073741824) :
    Calls Try.prog 128 [.slice ao b.length cap, .int .i64 a, .int .i64 o].toArray W (Ret fun v w' => v = .int .i64 (lik b a o) ∧ ∃ n, w' = W.drewN n) := by
  refine calls_of_sc 36 [(0, _), (1, _), (2, _)] Try.func128 rfl rfl rfl (enter_slots ⟨rfl, rfl, rfl, trivial⟩) ?_
  refine Sc.seq ?_
  refine Sc.region ?_
  refine Sl.calm (Cm.assign rfl) rfl ?_
  refine Sl.nil ?_
  refine At.go ?_
  refine Sc.seq ?_
  refine Sc.region ?_
  refine Sl.calm (Cm.assign rfl) rfl ?_
  refine Sl.nil ?_
  refine At.go ?_
  refine Sc.seq ?_
  refine Sc.block ?_
  refine Sc.loop (β := Nat) (fun k => [(0, .slice ao b.length cap), (1, .int .i64 a), (2, .int .i64 o), (7, .int .i64 k)]) (fun k w => k ≤ 130 ∧ a + k ≤ b.length ∧ (∀ i, i < k → CL b a o i) ∧ ∃ n, w = W.drewN n) (fun k => 131 - k) 0 ⟨rfl, rfl, rfl, rfl, trivial⟩ ⟨by omega, by omega, fun i hi => by omega, 0, rfl⟩ ?_
  rintro k _ ⟨hk, hk2, hk3, n, rfl⟩
  refine Sc.seq ?_
  refine Sc.seq ?_
  refine Sc.quiet 25 [0, 1, 2, 3, 4, 5, 6, 7, 8, 9, 10, 11, 12, 13, 14, 15, 16, 17, 18, 19, 20, 21, 22, 23, 24] mixed (by kernel_rfl) ?_
  refine Sx.calm rfl rfl (Cm.move rfl) rfl ?_
  refine Sx.fork rfl rfl (Cm.lss rfl rfl) rfl (fun h9 => ?_) (fun h9 => ?_)
  ·
    refine Sx.calm rfl rfl (Cm.move rfl) rfl ?_
    refine Sx.want rfl rfl rfl rfl (Cm.move rfl) rfl ?_
    refine Sx.want rfl rfl rfl rfl (Cm.move rfl) rfl ?_
    refine Sx.want rfl rfl rfl rfl (Cm.add64 rfl rfl (by omega)) rfl ?_
    refine Sx.want rfl rfl rfl rfl (Cm.move rfl) rfl ?_
    refine Sx.want rfl rfl rfl rfl (Cm.len sl25 rfl) rfl ?_
    refine Sx.forkWant rfl rfl rfl rfl (Cm.lss rfl rfl) rfl (fun h16 => ?_) (fun h16 => ?_)
    ·
      refine Sx.calm rfl rfl (Cm.pick_t rfl rfl) rfl ?_
      refine Sx.calm rfl rfl (Cm.move rfl) rfl ?_
      refine Sx.want rfl rfl rfl rfl (Cm.move rfl) rfl ?_
      refine Sx.want rfl rfl rfl rfl (Cm.move rfl) rfl ?_
      refine Sx.want rfl rfl rfl rfl (Cm.move rfl) rfl ?_
      refine Sx.want rfl rfl rfl rfl (Cm.add64 rfl rfl (by omega)) rfl ?_
      refine Sx.want rfl rfl rfl rfl (Cm.indexAddr1 sl25 rfl rfl hv.non (by omega)) rfl ?_
      refine Sx.want rfl rfl rfl rfl (Cm.ld sca5 rfl (hv.gz 0 (a + k) (by omega) (by omega))) rfl ?_
      refine Sx.want rfl rfl rfl rfl (Cm.move rfl) rfl ?_
      refine Sx.want rfl rfl rfl rfl (Cm.move rfl) rfl ?_
      refine Sx.want rfl rfl rfl rfl (Cm.move rfl) rfl ?_
      refine Sx.want rfl rfl rfl rfl (Cm.add64 rfl rfl (by omega)) rfl ?_
      refine Sx.want rfl rfl rfl rfl (Cm.indexAddr1 sl25 rfl rfl hv.non (by omega)) rfl ?_
      refine Sx.want rfl rfl rfl rfl (Cm.ld sca5 rfl (hv.gz 0 (o + k) (by omega) (by omega))) rfl ?_
      refine Sx.forkWant rfl rfl rfl rfl (Cm.eql rfl rfl) rfl (fun h31 => ?_) (fun h31 => ?_)
      ·
        refine Sx.calm rfl rfl (Cm.pick_t rfl rfl) rfl ?_
        refine Sx.nil ?_
        refine At.weak [(0, _), (1, _), (2, _), (7, _), (32, _)] ⟨rfl, rfl, rfl, rfl, rfl, trivial⟩ ?_
        refine At.go ?_
        refine Sc.cond_t rfl ?_
        refine Sc.skip ?_
        refine At.go ?_
        refine Sc.block ?_
        refine Sc.region ?_
        refine Sl.calm (Cm.move rfl) rfl ?_
        refine Sl.calm (Cm.add64 rfl rfl (by omega)) rfl ?_
        refine Sl.calm (Cm.assign rfl) rfl ?_
        refine Sl.nil ?_
        refine At.block_normal ?_
        refine At.again (k + 1) ⟨rfl, rfl, rfl, rfl, trivial⟩ ⟨by omega, by omega, fun i hi => ?_, n + 1, rfl⟩ (by show 131 - (k + 1) < 131 - k; omega)
        by_cases hik : i = k
        · subst hik; exact ⟨by omega, by omega, cl_byte h31⟩
        · exact hk3 i (by omega)
      ·
        refine Sx.calm rfl rfl (Cm.pick_t rfl rfl) rfl ?_
        refine Sx.nil ?_
        refine At.weak [(0, _), (1, _), (2, _), (7, _), (32, _)] ⟨rfl, rfl, rfl, rfl, rfl, trivial⟩ ?_
        refine At.go ?_
        refine Sc.cond_f rfl ?_
        refine Sc.exit ?_
        refine At.then_exit ?_
        refine At.then_exit ?_
        refine At.block_hit ?_
        refine At.go ?_
        refine Sc.seq ?_
        refine Sc.region ?_
        refine Sl.calm (Cm.move rfl) rfl ?_
        refine Sl.calm (Cm.assign rfl) rfl ?_
        refine Sl.nil ?_
        refine At.weak [(0, _), (1, _), (2, _), (6, _), (7, _), (32, _)] ⟨rfl, rfl, rfl, rfl, rfl, rfl, trivial⟩ ?_
        refine At.go ?_
        refine Sc.ret ?_
        refine At.ret1 rfl rfl ?_
        have e : k = lik b a o := lik_eq hk3 (fun hc => by
          obtain ⟨c1, c2, c3⟩ := hc
          first
            | omega
            | exact h31 (by rw [c3]))
        exact ⟨_, rfl, by rw [e], n + 1, rfl⟩
    ·
      refine Sx.calm rfl rfl (Cm.pick_t rfl rfl) rfl ?_
      refine Sx.calm rfl rfl (Cm.move rfl) rfl ?_
      refine Sx.skip rfl rfl rfl rfl rfl rfl ?_
      refine Sx.skip rfl rfl rfl rfl rfl rfl ?_
      refine Sx.skip rfl rfl rfl rfl rfl rfl ?_
      refine Sx.skip rfl rfl rfl rfl rfl rfl ?_
      refine Sx.skip rfl rfl rfl rfl rfl rfl ?_
      refine Sx.skip rfl rfl rfl rfl rfl rfl ?_
      refine Sx.skip rfl rfl rfl rfl rfl rfl ?_
      refine Sx.skip rfl rfl rfl rfl rfl rfl ?_
      refine Sx.skip rfl rfl rfl rfl rfl rfl ?_
      refine Sx.skip rfl rfl rfl rfl rfl rfl ?_
      refine Sx.skip rfl rfl rfl rfl rfl rfl ?_
      refine Sx.skip rfl rfl rfl rfl rfl rfl ?_
      refine Sx.skip rfl rfl rfl rfl rfl rfl ?_
      refine Sx.calm rfl rfl (Cm.pick_f rfl rfl) rfl ?_
      refine Sx.nil ?_
      refine At.weak [(0, _), (1, _), (2, _), (7, _), (32, _)] ⟨rfl, rfl, rfl, rfl, rfl, trivial⟩ ?_
      refine At.go ?_
      refine Sc.cond_f rfl ?_
      refine Sc.exit ?_
      refine At.then_exit ?_
      refine At.then_exit ?_
      refine At.block_hit ?_
      refine At.go ?_
      refine Sc.seq ?_
      refine Sc.region ?_
      refine Sl.calm (Cm.move rfl) rfl ?_
      refine Sl.calm (Cm.assign rfl) rfl ?_
      refine Sl.nil ?_
      refine At.weak [(0, _), (1, _), (2, _), (6, _), (7, _), (32, _)] ⟨rfl, rfl, rfl, rfl, rfl, rfl, trivial⟩ ?_
      refine At.go ?_
      refine Sc.ret ?_
      refine At.ret1 rfl rfl ?_
      have e : k = lik b a o := lik_eq hk3 (fun hc => by
        obtain ⟨c1, c2, c3⟩ := hc
        first
          | omega
          | exact h31 (by rw [c3]))
      exact ⟨_, rfl, by rw [e], n + 1, rfl⟩
  ·
    refine Sx.calm rfl rfl (Cm.move rfl) rfl ?_
    refine Sx.skip rfl rfl rfl rfl rfl rfl ?_
    refine Sx.skip rfl rfl rfl rfl rfl rfl ?_
    refine Sx.skip rfl rfl rfl rfl rfl rfl ?_
    refine Sx.skip rfl rfl rfl rfl rfl rfl ?_
    refine Sx.skip rfl rfl rfl rfl rfl rfl ?_
    refine Sx.skip rfl rfl rfl rfl rfl rfl ?_
    refine Sx.calm rfl rfl (Cm.pick_f rfl rfl) rfl ?_
    refine Sx.calm rfl rfl (Cm.move rfl) rfl ?_
    refine Sx.skip rfl rfl rfl rfl rfl rfl ?_
    refine Sx.skip rfl rfl rfl rfl rfl rfl ?_
    refine Sx.skip rfl rfl rfl rfl rfl rfl ?_
    refine Sx.skip rfl rfl rfl rfl rfl rfl ?_
    refine Sx.skip rfl rfl rfl rfl rfl rfl ?_
    refine Sx.skip rfl rfl rfl rfl rfl rfl ?_
    refine Sx.skip rfl rfl rfl rfl rfl rfl ?_
    refine Sx.skip rfl rfl rfl rfl rfl rfl ?_
    refine Sx.skip rfl rfl rfl rfl rfl rfl ?_
    refine Sx.skip rfl rfl rfl rfl rfl rfl ?_
    refine Sx.skip rfl rfl rfl rfl rfl rfl ?_
    refine Sx.skip rfl rfl rfl rfl rfl rfl ?_
    refine Sx.skip rfl rfl rfl rfl rfl rfl ?_
    refine Sx.calm rfl rfl (Cm.pick_f rfl rfl) rfl ?_
    refine Sx.nil ?_
    refine At.weak [(0, _), (1, _), (2, _), (7, _), (32, _)] ⟨rfl, rfl, rfl, rfl, rfl, trivial⟩ ?_
    refine At.go ?_
    refine Sc.cond_f rfl ?_
    refine Sc.exit ?_
    refine At.then_exit ?_
    refine At.then_exit ?_
    refine At.block_hit ?_
    refine At.go ?_
    refine Sc.seq ?_
    refine Sc.region ?_
    refine Sl.calm (Cm.move rfl) rfl ?_
    refine Sl.calm (Cm.assign rfl) rfl ?_
    refine Sl.nil ?_
    refine At.weak [(0, _), (1, _), (2, _), (6, _), (7, _), (32, _)] ⟨rfl, rfl, rfl, rfl, rfl, rfl, trivial⟩ ?_
    refine At.go ?_
    refine Sc.ret ?_
    refine At.ret1 rfl rfl ?_
    have e : k = lik b a o := lik_eq hk3 (fun hc => by
      obtain ⟨c1, c2, c3⟩ := hc
      first
        | omega
        | exact h31 (by rw [c3]))
    exact ⟨_, rfl, by rw [e], n + 1, rfl⟩
/-! runs -/
def RnP (W : World) (o : Option Addr) (xs : List UInt8) : Value → World → Prop := fun v w' => ∃ o' c', v = .slice o' xs.length c' ∧ Own b8 5 w'.heap o' c' xs ∧ Foot (blk o) W w' ∧ ∀ a, o' = some a → o = some a ∨ W.heap.size ≤ a.block
theorem keep_of {w w' : World} {o ao : Option Addr} {c : Nat} {l : List UInt8} (hv : Vw b8 w.heap ao c l) (f : Foot (blk o) w w') (h : ∀ k, blk o k → ¬ blk ao k) : Vw b8 w'.heap ao c l := hv.keep f (fun a ha hb => h _ hb ⟨a, ha, rfl⟩)
theorem vw_lt {H : Array Obj} {ao : Option Addr} {c : Nat} {l : List UInt8} (hv : Vw b8 H ao c l) (h : 0 < l.length) : ∀ k, blk ao k → k < H.size := fun k ⟨a, ha, hk⟩ => hk ▸ hv.lt (List.length_pos_iff.1 h) a ha
theorem min_one {n : Nat} (h : 0 < n) : IntKind.u8.wrap (((min n 128 : Nat) : Int) - 1) = ((UInt8.ofNat (min n 128 - 1)).toNat : Int) := by
  rw [wrap_byteN (by omega)]; congr 3; omega

set_option maxHeartbeats 1000000 in
theorem runs_ok (o : Option Addr) (co : Nat) (xs : List UInt8) (ao : Option Addr) (c : Nat) (l : List UInt8) (W : World) (ho : Own b8 5 W.heap o co xs) (hv : Vw b8 W.heap ao c l) (hap : 0 < l.length → ∀ k, blk o k → ¬ blk ao k) (hb : xs.length + 2 * l.length ≤ 1099511627776) :
    Calls Try.prog 111 [.slice o xs.length co, .slice ao l.length c].toArray W (Ret (RnP W o (rn xs l))) := by
  refine calls_of_sc 26 [(0, _), (1, _)] Try.func111 rfl rfl rfl (enter_slots ⟨rfl, rfl, trivial⟩) ?_
  refine Sc.seq ?_
  refine Sc.region ?_
  refine Sl.calm (Cm.assign rfl) rfl ?_
  refine Sl.nil ?_
  refine At.go ?_
  refine Sc.seq ?_
  refine Sc.block ?_
  refine Sc.loop (β := (List UInt8 × Option Addr × Nat) × (List UInt8 × Option Addr × Nat)) (fun ⟨⟨ys, o1, c1⟩, ⟨r, a1, c2⟩⟩ => [(0, .slice o1 ys.length c1), (1, .slice a1 r.length c2)]) (fun ⟨⟨ys, o1, c1⟩, ⟨r, a1, c2⟩⟩ w => rn ys r = rn xs l ∧ Own b8 5 w.heap o1 c1 ys ∧ Vw b8 w.heap a1 c2 r ∧ (0 < l.length → ∀ k, blk o1 k → ¬ blk ao k) ∧ r.length ≤ l.length ∧ (∀ k, blk a1 k → blk ao k) ∧ Foot (blk o) W w ∧ (∀ a, o1 = some a → o = some a ∨ W.heap.size ≤ a.block) ∧ ys.length + 2 * r.length ≤ 1099511627776) (fun ⟨⟨ys, o1, c1⟩, ⟨r, a1, c2⟩⟩ => r.length) ⟨⟨xs, o, co⟩, ⟨l, ao, c⟩⟩ ⟨rfl, rfl, trivial⟩ ⟨rfl, ho, hv, hap, Nat.le_refl _, fun _ h => h, Foot.refl _ _, fun a ha => .inl ha, hb⟩ ?_
  rintro ⟨⟨ys, o1, c1⟩, ⟨r, a1, c2⟩⟩ w1 ⟨hrn, ho1, hv1, hapc, hrl, hsub, hF1, hr1, hb1⟩
  have hle := hv1.le
  refine Sc.seq ?_
  refine Sc.seq ?_
  refine Sc.region ?_
  refine Sl.calm (Cm.move rfl) rfl ?_
  refine Sl.calm (Cm.len sl25 rfl) rfl ?_
  refine Sl.fork (Cm.gtr rfl rfl) rfl (fun h8 => ?_) (fun h8 => ?_)
  ·
    have hl0 : 0 < l.length := by omega
    have hap1 := hapc hl0
    have hlt := vw_lt hv hl0
    refine Sl.nil ?_
    refine At.weak [(0, _), (1, _), (8, _)] ⟨rfl, rfl, rfl, trivial⟩ ?_
    refine At.go ?_
    refine Sc.cond_t rfl ?_
    refine Sc.skip ?_
    refine At.go ?_
    refine Sc.block ?_
    refine Sc.seq ?_
    refine Sc.region ?_
    refine Sl.calm (Cm.move rfl) rfl ?_
    refine Sl.calm (Cm.len sl25 rfl) rfl ?_
    refine Sl.calm (Cm.ofEq (u := .int .i64 ((min r.length 128 : Nat) : Int)) (Cm.min2 rfl rfl) (by congr 1; split <;> omega)) rfl ?_
    refine Sl.calm (Cm.assign rfl) rfl ?_
    refine Sl.nil ?_
    refine At.weak [(0, _), (1, _), (5, _), (8, _)] ⟨rfl, rfl, rfl, rfl, trivial⟩ ?_
    refine At.go ?_
    refine Sc.seq ?_
    refine Sc.draw 11 (fun _ => True) [4, 5, 9] [0, 1, 2, 3, 6, 7, 8, 4, 5, 9, 10] mixed (by kernel_rfl) (trivial) ?_
    refine Sx.calm rfl rfl (Cm.move rfl) rfl ?_
    refine Sx.calm rfl rfl (Cm.move rfl) rfl ?_
    refine Sx.calm rfl rfl (Cm.sub64 rfl rfl (by omega)) rfl ?_
    refine Sx.calm rfl rfl (Cm.convI_in (n := ((UInt8.ofNat (min r.length 128 - 1)).toNat : Int)) is3 ty5 rfl (min_one (by omega))) rfl ?_
    refine Sx.calm rfl rfl (Cm.move rfl) rfl ?_
    refine Sx.calm rfl rfl (Cm.move rfl) rfl ?_
    refine Sx.calm rfl rfl (Cm.sliceH sl25 rfl rfl (by omega)) rfl ?_
    refine Sx.eff rfl rfl (Sl.lit1 (enc := b8) (u := UInt8.ofNat (min r.length 128 - 1)) sl25 rfl rfl rfl ?_)
    intro w2 ho2 hs2 hf2
    refine Sx.on (by exact trivial) ?_
    have hv2 := hv1.grow hf2.undraw
    have ho12 := ho1.grow hf2.undraw
    refine Sx.eff rfl rfl (Sl.append b8_one sl25 rfl rfl ho12 ho2.vw (by simp; omega) (by simp; unfold maxLen; omega) rfl ?_)
    intro a3 c3 w3 ho3 hf3 hr3 hn3
    refine Sx.on (by exact trivial) ?_
    have hf2 := hf2.undraw
    have hs2 := hf2.size
    have hz1 := hF1.size
    have hv3 := keep_of hv2 hf3 (fun k hk hk2 => hap1 k hk (hsub k hk2))
    refine Sx.eff rfl rfl (Sl.append b8_one sl25 (ys := r.take (min r.length 128)) rfl (by show some (Value.slice (cutAo a1 c2 0 1) (min r.length 128) c2) = _; rw [cutAo_zero, List.length_take, show min (min r.length 128) r.length = min r.length 128 by omega]) ho3 (hv3.take _) (by simp only [List.length_append, List.length_take, List.length_singleton]; omega) (by simp only [List.length_append, List.length_take, List.length_singleton]; unfold maxLen; omega) rfl ?_)
    intro a5 c5 w5 ho5 hf5 hr5a hn5
    refine Sx.on (by exact trivial) ?_
    have hz3 := hf3.size
    have hb3 : ∀ k, blk a3 k → ¬ blk ao k := fun k ⟨a, ha, hk⟩ hk2 => by rcases hr3 a ha with h | h; exact hap1 k ⟨a, h, hk⟩ hk2; have := hlt k hk2; omega
    have hv5 := keep_of hv3 hf5 (fun k hk hk2 => hb3 k hk (hsub k hk2))
    have hnew : ∀ k, blk a5 k → ¬ blk ao k := fun k ⟨a, ha, hk⟩ hk2 => by rcases hr5a a ha with h | h; exact hb3 k ⟨a, h, hk⟩ hk2; have := hlt k hk2; omega
    have hto3 : ∀ k, blk o1 k → blk o k ∨ W.heap.size ≤ k := fun k ⟨a, ha, hk⟩ => by rcases hr1 a ha with h | h; exact .inl ⟨a, h, hk⟩; exact .inr (by omega)
    have hF3 : Foot (blk o) W w3 := (hF1.trans hf2.any).trans_to hf3 hto3
    have hto5 : ∀ k, blk a3 k → blk o k ∨ W.heap.size ≤ k := fun k ⟨a, ha, hk⟩ => by rcases hr3 a ha with h | h; exact hto3 k ⟨a, h, hk⟩; exact .inr (by omega)
    have hF5 : Foot (blk o) W w5 := hF3.trans_to hf5 hto5
    have hr5 : ∀ a, a5 = some a → o = some a ∨ W.heap.size ≤ a.block := fun a ha => by rcases hr5a a ha with h | h; rcases hr3 a h with h2 | h2; exact hr1 a h2; exact .inr (by omega); exact .inr (by omega)
    refine Sx.calm rfl rfl (Cm.assign rfl) rfl ?_
    refine Sx.nil ?_
    refine At.weak [(0, _), (1, _), (5, _), (8, _)] ⟨rfl, rfl, rfl, rfl, trivial⟩ ?_
    refine At.go ?_
    refine Sc.region ?_
    refine Sl.calm (Cm.move rfl) rfl ?_
    refine Sl.calm (Cm.move rfl) rfl ?_
    refine Sl.calm (Cm.sliceL sl25 rfl rfl (by omega)) rfl ?_
    refine Sl.calm (Cm.assign rfl) rfl ?_
    refine Sl.nil ?_
    refine At.block_normal ?_
    have hm : (r.take (min r.length 128)).length = min r.length 128 := by rw [List.length_take]; omega
    have hrs := rn_step (out := ys) (l := r) (by omega)
    refine At.again ⟨⟨ys ++ [UInt8.ofNat (min r.length 128 - 1)] ++ r.take (min r.length 128), a5, c5⟩, ⟨r.drop (min r.length 128), cutAo a1 c2 (min r.length 128) 1, c2 - min r.length 128⟩⟩ ⟨rfl, ?_, trivial⟩ ?_ (by show (r.drop (min r.length 128)).length < r.length; rw [List.length_drop]; omega)
    · show some (Value.slice (cutAo a1 c2 (min r.length 128) 1) _ _) = some (Value.slice _ _ _)
      rw [List.length_drop]; rfl
    · refine ⟨?_, ho5, ?_, ?_, by rw [List.length_drop]; omega, fun k hk => hsub k (blk_cut hk), ?_, ?_, ?_⟩
      · rw [← hrn, hrs]; simp
      · have := hv5.cut (l := min r.length 128) (h := r.length) (m := c2) (by omega) (Nat.le_refl _) hle (Nat.le_refl _); rwa [List.take_of_length_le (by simp)] at this
      · intro _ k hk hk2; exact hnew k hk hk2
      · exact hF5
      · exact hr5
      · simp only [List.length_append, List.length_take, List.length_drop, List.length_singleton]; omega
  ·
    refine Sl.nil ?_
    refine At.weak [(0, _), (1, _), (8, _)] ⟨rfl, rfl, rfl, trivial⟩ ?_
    refine At.go ?_
    refine Sc.cond_f rfl ?_
    refine Sc.exit ?_
    refine At.then_exit ?_
    refine At.then_exit ?_
    refine At.block_hit ?_
    refine At.go ?_
    refine Sc.seq ?_
    refine Sc.region ?_
    refine Sl.calm (Cm.move rfl) rfl ?_
    refine Sl.calm (Cm.assign rfl) rfl ?_
    refine Sl.nil ?_
    refine At.weak [(0, _), (1, _), (4, _), (8, _)] ⟨rfl, rfl, rfl, rfl, trivial⟩ ?_
    refine At.go ?_
    refine Sc.ret ?_
    refine At.ret1 rfl rfl ?_
    have hr0 : r = [] := List.eq_nil_of_length_eq_zero (by omega)
    subst hr0
    rw [rn_nil] at hrn
    rw [← hrn]
    exact ⟨_, rfl, o1, c1, rfl, ho1, hF1, hr1⟩
end Go.Proofs.Ytoaplldahbbaiaa
/- lz: Unpack, the program's and the reference's. No condition beyond the bounds that each states. -/
namespace Go.Proofs.Ytoaplldahbbaiaa
open Go Go.RowKit
set_option linter.unusedVariables false

theorem cons_of {r : List UInt8} (h : 0 < r.length) : r = r.getD 0 0 :: r.drop 1 := by
  cases r with
  | nil => cases h
  | cons t r => rfl
theorem two_of {r : List UInt8} (h : 1 < r.length) : r = r.getD 0 0 :: r.getD 1 0 :: r.drop 2 := by
  match r, h with
  | t :: c :: r, _ => rfl
theorem up_small {most : Int} {r out : List UInt8} {t : Nat} (h0 : 0 < r.length) (ht : t = (r.getD 0 0).toNat) (h : t < 128) :
    up most r out = if r.length < t + 2 then ([], 2) else if most - out.length < t + 1 then ([], 3) else up most (r.drop (t + 2)) (out ++ (r.drop 1).take (t + 1)) := by
  conv => lhs; rw [cons_of (r := r) h0]
  rw [up_run (by omega), ← ht, List.length_drop, List.drop_drop]
  congr 1
  · simp; omega
  · rw [show 1 + (t + 1) = t + 2 by omega]
theorem up_great {most : Int} {r out : List UInt8} {t c : Nat} (h0 : 0 < r.length) (ht : t = (r.getD 0 0).toNat) (hc : c = (r.getD 1 0).toNat) (h : ¬ t < 128) :
    up most r out = if r.length < 2 then ([], 2) else if out.length < c + 1 then ([], 2) else if most - out.length < (t : Int) - 125 then ([], 3) else up most (r.drop 2) (cp out (c + 1) (t - 125)) := by
  by_cases h2 : r.length < 2
  · rw [if_pos h2]
    have e := cons_of h0
    have e2 : r.drop 1 = [] := List.eq_nil_of_length_eq_zero (by rw [List.length_drop]; omega)
    rw [e2] at e
    rw [e, up_copy0 (by omega)]
  · rw [if_neg h2]
    conv => lhs; rw [two_of (r := r) (by omega)]
    rw [up_copy (by omega), ← ht, ← hc]

set_option maxHeartbeats 2000000 in
theorem unpack_ok (ao : Option Addr) (cap : Nat) (b : List UInt8) (most : Int) (W : World) (hv : Vw b8 W.heap ao cap b) (hb : b.length ≤ 1073741824) (hm : most ≤ 9223372036854775807) :
    Calls Try.prog 113 [.slice ao b.length cap, .int .i64 most].toArray W (Ret (PutP W (upS b most))) := by
  refine calls_of_sc 87 [(0, _), (1, _)] Try.func113 rfl rfl rfl (enter_slots ⟨rfl, rfl, trivial⟩) ?_
  refine Sc.seq ?_
  refine Sc.region ?_
  refine Sl.calm (Cm.assign rfl) rfl ?_
  refine Sl.calm (Cm.assign rfl) rfl ?_
  refine Sl.nil ?_
  refine At.go ?_
  refine Sc.seq ?_
  refine Sc.seq ?_
  refine Sc.region ?_
  refine Sl.calm (Cm.move rfl) rfl ?_
  refine Sl.fork (Cm.lss rfl rfl) rfl (fun h13 => ?_) (fun h13 => ?_)
  ·
    have e : upS b most = ([], 1) := by unfold upS; rw [if_pos h13]
    refine Sl.nil ?_
    refine At.weak [(0, _), (1, _), (4, _), (5, _), (13, _)] ⟨rfl, rfl, rfl, rfl, rfl, trivial⟩ ?_
    refine At.go ?_
    refine Sc.cond_t rfl ?_
    refine Sc.seq ?_
    refine Sc.region ?_
    refine Sl.calm (Cm.assign rfl) rfl ?_
    refine Sl.calm (Cm.assign rfl) rfl ?_
    refine Sl.nil ?_
    refine At.go ?_
    refine Sc.ret ?_
    refine At.then_ret ?_
    refine At.ret2 rfl rfl rfl ?_
    first
      | (rw [e]; exact ⟨_, rfl, none, 0, rfl, Own.nil, Fr.none, Foot.refl _ _⟩)
      | (rw [e, ← hup, e2]; exact ⟨_, rfl, none, 0, rfl, Own.nil, Fr.none, hF1⟩)
      | (rw [e, ← hup, e3]; exact ⟨_, rfl, none, 0, rfl, Own.nil, Fr.none, hF1⟩)
      | (have hr0 : r = [] := List.eq_nil_of_length_eq_zero (by omega)
         subst hr0
         rw [up_nil] at hup
         rw [e, ← hup]
         exact ⟨_, rfl, o1, c2, rfl, ho1, hfr1, hF1⟩)
  ·
    have e : upS b most = up most b [] := by unfold upS; rw [if_neg h13]
    refine Sl.nil ?_
    refine At.weak [(0, _), (1, _), (4, _), (5, _), (13, _)] ⟨rfl, rfl, rfl, rfl, rfl, trivial⟩ ?_
    refine At.go ?_
    refine Sc.cond_f rfl ?_
    refine Sc.skip ?_
    refine At.go ?_
    refine Sc.seq ?_
    refine Sc.region ?_
    refine Sl.calm (Cm.assign rfl) rfl ?_
    refine Sl.nil ?_
    refine At.go ?_
    refine Sc.seq ?_
    refine Sc.block ?_
    refine Sc.loop (β := (List UInt8 × Option Addr × Nat) × (List UInt8 × Option Addr × Nat)) (fun ⟨⟨r, a1, c1⟩, ⟨out, o1, c2⟩⟩ => [(0, .slice a1 r.length c1), (1, .int .i64 most), (6, .slice o1 out.length c2)]) (fun ⟨⟨r, a1, c1⟩, ⟨out, o1, c2⟩⟩ w => up most r out = up most b [] ∧ Vw b8 W.heap a1 c1 r ∧ Own b8 5 w.heap o1 c2 out ∧ Fr W.heap.size o1 ∧ out.length + 65 * r.length ≤ 65 * b.length ∧ Foot nob W w) (fun ⟨⟨r, a1, c1⟩, ⟨out, o1, c2⟩⟩ => r.length) ⟨⟨b, ao, cap⟩, ⟨[], none, 0⟩⟩ ⟨rfl, rfl, rfl, trivial⟩ ⟨rfl, hv, Own.nil, Fr.none, by simp, Foot.refl _ _⟩ ?_
    rintro ⟨⟨r, a1, c1⟩, ⟨out, o1, c2⟩⟩ w1 ⟨hup, hvW, ho1, hfr1, hlen, hF1⟩
    have hv1 := hvW.grow hF1
    refine Sc.seq ?_
    refine Sc.seq ?_
    refine Sc.region ?_
    refine Sl.calm (Cm.move rfl) rfl ?_
    refine Sl.calm (Cm.len sl25 rfl) rfl ?_
    refine Sl.fork (Cm.gtr rfl rfl) rfl (fun h16 => ?_) (fun h16 => ?_)
    ·
      refine Sl.nil ?_
      refine At.weak [(0, _), (1, _), (6, _), (16, _)] ⟨rfl, rfl, rfl, rfl, trivial⟩ ?_
      refine At.go ?_
      refine Sc.cond_t rfl ?_
      refine Sc.skip ?_
      refine At.go ?_
      refine Sc.block ?_
      refine Sc.seq ?_
      refine Sc.region ?_
      refine Sl.calm (Cm.move rfl) rfl ?_
      refine Sl.calm (Cm.indexAddr1 sl25 rfl rfl hv1.non (by omega)) rfl ?_
      refine Sl.calm (Cm.ld sca5 rfl (hv1.gz 0 0 rfl (by omega))) rfl ?_
      obtain ⟨t, ht⟩ : ∃ t, t = (r.getD 0 0).toNat := ⟨_, rfl⟩
      have ht256 : t < 256 := by have := (r.getD 0 0).toNat_lt; omega
      refine Sl.calm (Cm.convI_in (n := (t : Int)) is5 ty3 rfl (by rw [← ht]; exact wrap64_id (by omega))) rfl ?_
      refine Sl.calm (Cm.assign rfl) rfl ?_
      refine Sl.nil ?_
      refine At.weak [(0, _), (1, _), (6, _), (7, _), (16, _)] ⟨rfl, rfl, rfl, rfl, rfl, trivial⟩ ?_
      refine At.go ?_
      refine Sc.seq ?_
      refine Sc.region ?_
      refine Sl.calm (Cm.move rfl) rfl ?_
      refine Sl.calm (Cm.ofEq (u := .slice (cutAo a1 c1 1 1) (r.drop 1).length (c1 - 1)) (Cm.sliceL sl25 rfl rfl (by omega)) (by rw [List.length_drop]; rfl)) rfl ?_
      have hle := hv1.le
      have hv2W : Vw b8 W.heap (cutAo a1 c1 1 1) (c1 - 1) (r.drop 1) := by have := hvW.cut (l := 1) (h := r.length) (m := c1) (by omega) (Nat.le_refl _) hle (Nat.le_refl _); rwa [List.take_of_length_le (by simp)] at this
      have hv2 := hv2W.grow hF1
      have hd1 : (r.drop 1).length = r.length - 1 := List.length_drop ..
      refine Sl.calm (Cm.assign rfl) rfl ?_
      refine Sl.nil ?_
      refine At.weak [(0, _), (1, _), (6, _), (7, _), (16, _)] ⟨rfl, rfl, rfl, rfl, rfl, trivial⟩ ?_
      refine At.go ?_
      refine Sc.seq ?_
      refine Sc.region ?_
      refine Sl.calm (Cm.move rfl) rfl ?_
      refine Sl.calm (Cm.add64 rfl rfl (by omega)) rfl ?_
      refine Sl.calm (Cm.move rfl) rfl ?_
      refine Sl.calm (Cm.add64 rfl rfl (by omega)) rfl ?_
      refine Sl.calm (Cm.assign rfl) rfl ?_
      refine Sl.calm (Cm.assign rfl) rfl ?_
      refine Sl.nil ?_
      refine At.weak [(0, _), (1, _), (6, _), (7, _), (8, _), (9, _), (16, _)] ⟨rfl, rfl, rfl, rfl, rfl, rfl, rfl, trivial⟩ ?_
      refine At.go ?_
      refine Sc.seq ?_
      refine Sc.seq ?_
      refine Sc.region ?_
      refine Sl.calm (Cm.move rfl) rfl ?_
      refine Sl.fork (Cm.geq rfl rfl) rfl (fun h28 => ?_) (fun h28 => ?_)
      ·
        have hgr := up_great (most := most) (out := out) (by omega) ht (c := (r.getD 1 0).toNat) rfl (by omega)
        refine Sl.nil ?_
        refine At.weak [(0, _), (1, _), (6, _), (7, _), (8, _), (9, _), (16, _), (28, _)] ⟨rfl, rfl, rfl, rfl, rfl, rfl, rfl, rfl, trivial⟩ ?_
        refine At.go ?_
        refine Sc.cond_t rfl ?_
        refine Sc.region ?_
        refine Sl.calm (Cm.move rfl) rfl ?_
        refine Sl.calm (Cm.sub64 rfl rfl (by omega)) rfl ?_
        refine Sl.calm (Cm.assign rfl) rfl ?_
        refine Sl.calm (Cm.assign rfl) rfl ?_
        refine Sl.nil ?_
        refine At.weak [(0, _), (1, _), (6, _), (7, _), (8, _), (9, _), (16, _), (28, _)] ⟨rfl, rfl, rfl, rfl, rfl, rfl, rfl, rfl, trivial⟩ ?_
        refine At.go ?_
        refine Sc.seq ?_
        refine Sc.seq ?_
        refine Sc.region ?_
        refine Sl.calm (Cm.move rfl) rfl ?_
        refine Sl.calm (Cm.len sl25 rfl) rfl ?_
        refine Sl.calm (Cm.move rfl) rfl ?_
        refine Sl.fork (Cm.lss rfl rfl) rfl (fun h34 => ?_) (fun h34 => ?_)
        ·
          have e2 : up most r out = ([], 2) := by rw [hgr, if_pos (by omega)]
          refine Sl.calm (Cm.move rfl) rfl ?_
          refine Sl.skip rfl rfl rfl rfl ?_
          refine Sl.skip rfl rfl rfl rfl ?_
          refine Sl.skip rfl rfl rfl rfl ?_
          refine Sl.skip rfl rfl rfl rfl ?_
          refine Sl.skip rfl rfl rfl rfl ?_
          refine Sl.skip rfl rfl rfl rfl ?_
          refine Sl.skip rfl rfl rfl rfl ?_
          refine Sl.skip rfl rfl rfl rfl ?_
          refine Sl.skip rfl rfl rfl rfl ?_
          refine Sl.skip rfl rfl rfl rfl ?_
          refine Sl.skip rfl rfl rfl rfl ?_
          refine Sl.calm (Cm.pick_t rfl rfl) rfl ?_
          refine Sl.nil ?_
          refine At.weak [(0, _), (1, _), (6, _), (7, _), (8, _), (9, _), (16, _), (28, _), (47, _)] ⟨rfl, rfl, rfl, rfl, rfl, rfl, rfl, rfl, rfl, trivial⟩ ?_
          refine At.go ?_
          refine Sc.cond_t rfl ?_
          refine Sc.seq ?_
          refine Sc.region ?_
          refine Sl.calm (Cm.assign rfl) rfl ?_
          refine Sl.calm (Cm.assign rfl) rfl ?_
          refine Sl.nil ?_
          refine At.go ?_
          refine Sc.ret ?_
          refine At.then_ret ?_
          refine At.block_ret ?_
          refine At.then_ret ?_
          refine At.block_ret ?_
          refine At.then_ret ?_
          refine At.ret2 rfl rfl rfl ?_
          first
            | (rw [e]; exact ⟨_, rfl, none, 0, rfl, Own.nil, Fr.none, Foot.refl _ _⟩)
            | (rw [e, ← hup, e2]; exact ⟨_, rfl, none, 0, rfl, Own.nil, Fr.none, hF1⟩)
            | (rw [e, ← hup, e3]; exact ⟨_, rfl, none, 0, rfl, Own.nil, Fr.none, hF1⟩)
            | (have hr0 : r = [] := List.eq_nil_of_length_eq_zero (by omega)
               subst hr0
               rw [up_nil] at hup
               rw [e, ← hup]
               exact ⟨_, rfl, o1, c2, rfl, ho1, hfr1, hF1⟩)
        ·
          refine Sl.calm (Cm.move rfl) rfl ?_
          refine Sl.want rfl rfl (Cm.move rfl) rfl ?_
          refine Sl.want rfl rfl (Cm.yes (Cm.geq rfl rfl) (by omega)) rfl ?_
          refine Sl.want rfl rfl (Cm.move rfl) rfl ?_
          refine Sl.want rfl rfl (Cm.move rfl) rfl ?_
          refine Sl.want rfl rfl (Cm.indexAddr1 sl25 rfl rfl hv2.non (by omega)) rfl ?_
          obtain ⟨c, hc⟩ : ∃ c, c = (r.getD 1 0).toNat := ⟨_, rfl⟩
          have hc256 : c < 256 := by have := (r.getD 1 0).toNat_lt; omega
          have hcd : (r.drop 1).getD 0 0 = r.getD 1 0 := by simp [List.getD]
          rw [← hc] at hgr
          refine Sl.want rfl rfl (Cm.ld sca5 rfl (hv2.gz 0 0 rfl (by omega))) rfl ?_
          refine Sl.want rfl rfl (Cm.convI_in (n := (c : Int)) is5 ty3 rfl (by rw [hcd, ← hc]; exact wrap64_id (by omega))) rfl ?_
          refine Sl.want rfl rfl (Cm.move rfl) rfl ?_
          refine Sl.want rfl rfl (Cm.len sl25 rfl) rfl ?_
          refine Sl.forkWant rfl rfl (Cm.geq rfl rfl) rfl (fun h45 => ?_) (fun h45 => ?_)
          ·
            have e2 : up most r out = ([], 2) := by rw [hgr, if_neg (by omega), if_pos (by omega)]
            refine Sl.want rfl rfl (Cm.pick_t rfl rfl) rfl ?_
            refine Sl.calm (Cm.pick_f rfl rfl) rfl ?_
            refine Sl.nil ?_
            refine At.weak [(0, _), (1, _), (6, _), (7, _), (8, _), (9, _), (16, _), (28, _), (47, _)] ⟨rfl, rfl, rfl, rfl, rfl, rfl, rfl, rfl, rfl, trivial⟩ ?_
            refine At.go ?_
            refine Sc.cond_t rfl ?_
            refine Sc.seq ?_
            refine Sc.region ?_
            refine Sl.calm (Cm.assign rfl) rfl ?_
            refine Sl.calm (Cm.assign rfl) rfl ?_
            refine Sl.nil ?_
            refine At.go ?_
            refine Sc.ret ?_
            refine At.then_ret ?_
            refine At.block_ret ?_
            refine At.then_ret ?_
            refine At.block_ret ?_
            refine At.then_ret ?_
            refine At.ret2 rfl rfl rfl ?_
            first
              | (rw [e]; exact ⟨_, rfl, none, 0, rfl, Own.nil, Fr.none, Foot.refl _ _⟩)
              | (rw [e, ← hup, e2]; exact ⟨_, rfl, none, 0, rfl, Own.nil, Fr.none, hF1⟩)
              | (rw [e, ← hup, e3]; exact ⟨_, rfl, none, 0, rfl, Own.nil, Fr.none, hF1⟩)
              | (have hr0 : r = [] := List.eq_nil_of_length_eq_zero (by omega)
                 subst hr0
                 rw [up_nil] at hup
                 rw [e, ← hup]
                 exact ⟨_, rfl, o1, c2, rfl, ho1, hfr1, hF1⟩)
          ·
            refine Sl.want rfl rfl (Cm.pick_t rfl rfl) rfl ?_
            refine Sl.calm (Cm.pick_f rfl rfl) rfl ?_
            refine Sl.nil ?_
            refine At.weak [(0, _), (1, _), (6, _), (7, _), (8, _), (9, _), (16, _), (28, _), (47, _)] ⟨rfl, rfl, rfl, rfl, rfl, rfl, rfl, rfl, rfl, trivial⟩ ?_
            refine At.go ?_
            refine Sc.cond_f rfl ?_
            refine Sc.skip ?_
            refine At.go ?_
            refine Sc.seq ?_
            refine Sc.seq ?_
            refine Sc.region ?_
            refine Sl.calm (Cm.move rfl) rfl ?_
            refine Sl.calm (Cm.move rfl) rfl ?_
            refine Sl.calm (Cm.move rfl) rfl ?_
            refine Sl.calm (Cm.len sl25 rfl) rfl ?_
            refine Sl.calm (Cm.sub64 rfl rfl (by omega)) rfl ?_
            refine Sl.fork (Cm.gtr rfl rfl) rfl (fun h53 => ?_) (fun h53 => ?_)
            ·
              have e3 : up most r out = ([], 3) := by rw [hgr, if_neg (by omega), if_neg (by omega), if_pos (by omega)]
              refine Sl.nil ?_
              refine At.weak [(0, _), (1, _), (6, _), (7, _), (8, _), (9, _), (16, _), (28, _), (47, _), (53, _)] ⟨rfl, rfl, rfl, rfl, rfl, rfl, rfl, rfl, rfl, rfl, trivial⟩ ?_
              refine At.go ?_
              refine Sc.cond_t rfl ?_
              refine Sc.seq ?_
              refine Sc.region ?_
              refine Sl.calm (Cm.assign rfl) rfl ?_
              refine Sl.calm (Cm.assign rfl) rfl ?_
              refine Sl.nil ?_
              refine At.go ?_
              refine Sc.ret ?_
              refine At.then_ret ?_
              refine At.block_ret ?_
              refine At.then_ret ?_
              refine At.block_ret ?_
              refine At.then_ret ?_
              refine At.ret2 rfl rfl rfl ?_
              first
                | (rw [e]; exact ⟨_, rfl, none, 0, rfl, Own.nil, Fr.none, Foot.refl _ _⟩)
                | (rw [e, ← hup, e2]; exact ⟨_, rfl, none, 0, rfl, Own.nil, Fr.none, hF1⟩)
                | (rw [e, ← hup, e3]; exact ⟨_, rfl, none, 0, rfl, Own.nil, Fr.none, hF1⟩)
                | (have hr0 : r = [] := List.eq_nil_of_length_eq_zero (by omega)
                   subst hr0
                   rw [up_nil] at hup
                   rw [e, ← hup]
                   exact ⟨_, rfl, o1, c2, rfl, ho1, hfr1, hF1⟩)
            ·
              have e4 : up most r out = up most (r.drop 2) (cp out (c + 1) (t - 125)) := by rw [hgr, if_neg (by omega), if_neg (by omega), if_neg (by omega)]
              refine Sl.nil ?_
              refine At.weak [(0, _), (1, _), (6, _), (7, _), (8, _), (9, _), (16, _), (28, _), (47, _), (53, _)] ⟨rfl, rfl, rfl, rfl, rfl, rfl, rfl, rfl, rfl, rfl, trivial⟩ ?_
              refine At.go ?_
              refine Sc.cond_f rfl ?_
              refine Sc.skip ?_
              refine At.go ?_
              refine Sc.seq ?_
              refine Sc.seq ?_
              refine Sc.region ?_
              refine Sl.calm (Cm.move rfl) rfl ?_
              refine Sl.calm (Cm.no (Cm.lss rfl rfl) (by omega)) rfl ?_
              refine Sl.nil ?_
              refine At.weak [(0, _), (1, _), (6, _), (7, _), (8, _), (9, _), (16, _), (28, _), (47, _), (53, _), (55, _)] ⟨rfl, rfl, rfl, rfl, rfl, rfl, rfl, rfl, rfl, rfl, rfl, trivial⟩ ?_
              refine At.go ?_
              refine Sc.cond_f rfl ?_
              refine Sc.seq ?_
              refine Sc.region ?_
              refine Sl.calm (Cm.move rfl) rfl ?_
              refine Sl.calm (Cm.len sl25 rfl) rfl ?_
              refine Sl.calm (Cm.move rfl) rfl ?_
              refine Sl.calm (Cm.indexAddr1 sl25 rfl rfl hv2.non (by omega)) rfl ?_
              refine Sl.calm (Cm.ld sca5 rfl (hv2.gz 0 0 rfl (by omega))) rfl ?_
              refine Sl.calm (Cm.convI_in (n := (c : Int)) is5 ty3 rfl (by rw [hcd, ← hc]; exact wrap64_id (by omega))) rfl ?_
              refine Sl.calm (Cm.sub64 rfl rfl (by omega)) rfl ?_
              refine Sl.calm (Cm.sub64 rfl rfl (by omega)) rfl ?_
              refine Sl.calm (Cm.assign rfl) rfl ?_
              refine Sl.nil ?_
              refine At.weak [(0, _), (1, _), (6, _), (7, _), (8, _), (9, _), (10, _), (16, _), (28, _), (47, _), (53, _), (55, _)] ⟨rfl, rfl, rfl, rfl, rfl, rfl, rfl, rfl, rfl, rfl, rfl, rfl, trivial⟩ ?_
              refine At.go ?_
              refine Sc.seq ?_
              refine Sc.region ?_
              refine Sl.calm (Cm.move rfl) rfl ?_
              refine Sl.calm (Cm.move rfl) rfl ?_
              refine Sl.nil ?_
              refine At.go ?_
              refine Sc.block ?_
              refine Sc.loop (β := Nat × Option Addr × Nat) (fun ⟨k, o2, c3⟩ => [(0, .slice (cutAo a1 c1 1 1) (r.drop 1).length (c1 - 1)), (1, .int .i64 most), (6, .slice o2 (cp out (c + 1) k).length c3), (9, .int .i64 1), (10, .int .i64 ((out.length : Int) - c - 1)), (28, .bool true), (69, .int .i64 ((t : Int) - 125)), (70, .int .i64 k)]) (fun ⟨k, o2, c3⟩ w => k ≤ t - 125 ∧ Own b8 5 w.heap o2 c3 (cp out (c + 1) k) ∧ Fr W.heap.size o2 ∧ Foot nob W w) (fun ⟨k, o2, c3⟩ => t - 125 - k) ⟨0, o1, c2⟩ ⟨rfl, rfl, rfl, rfl, rfl, rfl, rfl, rfl, trivial⟩ ⟨Nat.zero_le _, ho1, hfr1, hF1⟩ ?_
              rintro ⟨k, o2, c3⟩ w2 ⟨hk, ho2, hfr2, hF2⟩
              refine Sc.seq ?_
              refine Sc.region ?_
              refine Sl.fork (Cm.lss rfl rfl) rfl (fun h71 => ?_) (fun h71 => ?_)
              ·
                refine Sl.nil ?_
                refine At.go ?_
                refine Sc.seq ?_
                refine Sc.cond_t rfl ?_
                refine Sc.skip ?_
                refine At.go ?_
                refine Sc.seq ?_
                refine Sc.block ?_
                refine Sc.seq ?_
                refine Sc.region ?_
                refine Sl.calm (Cm.move rfl) rfl ?_
                refine Sl.calm (Cm.assign rfl) rfl ?_
                refine Sl.nil ?_
                refine At.weak [(0, _), (1, _), (6, _), (9, _), (10, _), (11, _), (28, _), (69, _), (70, _), (71, _)] ⟨rfl, rfl, rfl, rfl, rfl, rfl, rfl, rfl, rfl, rfl, trivial⟩ ?_
                refine At.go ?_
                refine Sc.region ?_
                refine Sl.calm (Cm.move rfl) rfl ?_
                refine Sl.calm (Cm.move rfl) rfl ?_
                refine Sl.calm (Cm.move rfl) rfl ?_
                refine Sl.calm (Cm.move rfl) rfl ?_
                have hcl := cp_len (c + 1) k out
                refine Sl.calm (Cm.add64 rfl rfl (by omega)) rfl ?_
                refine Sl.calm (Cm.indexAddr1 sl25 rfl rfl ho2.vw.non (by omega)) rfl ?_
                refine Sl.calm (Cm.ld sca5 rfl (ho2.vw.gz 0 (out.length - (c + 1) + k) (by omega) (by omega))) rfl ?_
                refine Sl.lit1 (enc := b8) (u := (cp out (c + 1) k).getD (out.length - (c + 1) + k) 0) sl25 rfl rfl rfl ?_
                intro w3 hol hsl hfl
                refine Sl.append b8_one sl25 rfl rfl (ho2.grow hfl) hol.vw (by simp only [List.length_singleton]; omega) (by simp only [List.length_singleton]; unfold maxLen; omega) rfl ?_
                intro o4 c4 w4 ho4 hf4 hr4 hn4
                have hz2 := hF2.size
                have hzl := hfl.size
                have hF4 : Foot nob W w4 := (hF2.trans hfl).trans_to hf4 hfr2.step
                have hfr4 : Fr W.heap.size o4 := fr_next hfr2 hr4 (by omega)
                have hsn : cp out (c + 1) k ++ [(cp out (c + 1) k).getD (out.length - (c + 1) + k) 0] = cp out (c + 1) (k + 1) := by rw [cp_snoc, hcl, show out.length + k - (c + 1) = out.length - (c + 1) + k by omega]
                rw [hsn] at ho4 ⊢
                refine Sl.calm (Cm.assign rfl) rfl ?_
                refine Sl.nil ?_
                refine At.block_normal ?_
                refine At.weak [(0, _), (1, _), (6, _), (9, _), (10, _), (11, _), (28, _), (69, _), (70, _), (71, _)] ⟨rfl, rfl, rfl, rfl, rfl, rfl, rfl, rfl, rfl, rfl, trivial⟩ ?_
                refine At.go ?_
                refine Sc.region ?_
                refine Sl.calm (Cm.add64 rfl rfl (by omega)) rfl ?_
                refine Sl.calm (Cm.move rfl) rfl ?_
                refine Sl.nil ?_
                exact At.again ⟨k + 1, o4, c4⟩ ⟨rfl, rfl, rfl, rfl, rfl, rfl, rfl, rfl, trivial⟩ ⟨by omega, ho4, hfr4, hF4⟩ (by show t - 125 - (k + 1) < t - 125 - k; omega)
              ·
                refine Sl.nil ?_
                refine At.go ?_
                refine Sc.seq ?_
                refine Sc.cond_f rfl ?_
                refine Sc.exit ?_
                refine At.then_exit ?_
                refine At.then_exit ?_
                refine At.block_hit ?_
                refine At.go ?_
                refine Sc.region ?_
                refine Sl.calm (Cm.move rfl) rfl ?_
                refine Sl.calm (Cm.move rfl) rfl ?_
                refine Sl.calm (Cm.ofEq (u := .slice (cutAo (cutAo a1 c1 1 1) (c1 - 1) 1 1) (r.drop 2).length (c1 - 1 - 1)) (Cm.sliceL sl25 rfl rfl (by omega)) (by rw [List.length_drop, List.length_drop, show r.length - 1 - (1 : Int).toNat = r.length - 2 by omega]; rfl)) rfl ?_
                refine Sl.calm (Cm.assign rfl) rfl ?_
                refine Sl.nil ?_
                refine At.block_normal ?_
                have hkk : k = t - 125 := by omega
                have hcl := cp_len (c + 1) k out
                have hv3 : Vw b8 W.heap (cutAo (cutAo a1 c1 1 1) (c1 - 1) 1 1) (c1 - 1 - 1) (r.drop 2) := by have := hv2W.cut (l := 1) (h := (r.drop 1).length) (m := c1 - 1) (by omega) (Nat.le_refl _) (by omega) (Nat.le_refl _); rwa [List.take_of_length_le (by rw [List.length_drop]; exact Nat.le_refl _), List.drop_drop] at this
                refine At.again ⟨⟨r.drop 2, cutAo (cutAo a1 c1 1 1) (c1 - 1) 1 1, c1 - 1 - 1⟩, ⟨cp out (c + 1) k, o2, c3⟩⟩ ⟨rfl, rfl, rfl, trivial⟩ ⟨by rw [hkk, ← e4]; exact hup, hv3, ho2, hfr2, by rw [hcl, List.length_drop]; omega, hF2⟩ (by show (r.drop 2).length < r.length; rw [List.length_drop]; omega)
      ·
        have hsm := up_small (most := most) (out := out) (by omega) ht (by omega)
        refine Sl.nil ?_
        refine At.weak [(0, _), (1, _), (6, _), (7, _), (8, _), (9, _), (16, _), (28, _)] ⟨rfl, rfl, rfl, rfl, rfl, rfl, rfl, rfl, trivial⟩ ?_
        refine At.go ?_
        refine Sc.cond_f rfl ?_
        refine Sc.skip ?_
        refine At.go ?_
        refine Sc.seq ?_
        refine Sc.seq ?_
        refine Sc.region ?_
        refine Sl.calm (Cm.move rfl) rfl ?_
        refine Sl.calm (Cm.len sl25 rfl) rfl ?_
        refine Sl.calm (Cm.move rfl) rfl ?_
        refine Sl.fork (Cm.lss rfl rfl) rfl (fun h34 => ?_) (fun h34 => ?_)
        ·
          have e2 : up most r out = ([], 2) := by rw [hsm, if_pos (by omega)]
          refine Sl.calm (Cm.move rfl) rfl ?_
          refine Sl.skip rfl rfl rfl rfl ?_
          refine Sl.skip rfl rfl rfl rfl ?_
          refine Sl.skip rfl rfl rfl rfl ?_
          refine Sl.skip rfl rfl rfl rfl ?_
          refine Sl.skip rfl rfl rfl rfl ?_
          refine Sl.skip rfl rfl rfl rfl ?_
          refine Sl.skip rfl rfl rfl rfl ?_
          refine Sl.skip rfl rfl rfl rfl ?_
          refine Sl.skip rfl rfl rfl rfl ?_
          refine Sl.skip rfl rfl rfl rfl ?_
          refine Sl.skip rfl rfl rfl rfl ?_
          refine Sl.calm (Cm.pick_t rfl rfl) rfl ?_
          refine Sl.nil ?_
          refine At.weak [(0, _), (1, _), (6, _), (7, _), (8, _), (9, _), (16, _), (28, _), (47, _)] ⟨rfl, rfl, rfl, rfl, rfl, rfl, rfl, rfl, rfl, trivial⟩ ?_
          refine At.go ?_
          refine Sc.cond_t rfl ?_
          refine Sc.seq ?_
          refine Sc.region ?_
          refine Sl.calm (Cm.assign rfl) rfl ?_
          refine Sl.calm (Cm.assign rfl) rfl ?_
          refine Sl.nil ?_
          refine At.go ?_
          refine Sc.ret ?_
          refine At.then_ret ?_
          refine At.block_ret ?_
          refine At.then_ret ?_
          refine At.block_ret ?_
          refine At.then_ret ?_
          refine At.ret2 rfl rfl rfl ?_
          first
            | (rw [e]; exact ⟨_, rfl, none, 0, rfl, Own.nil, Fr.none, Foot.refl _ _⟩)
            | (rw [e, ← hup, e2]; exact ⟨_, rfl, none, 0, rfl, Own.nil, Fr.none, hF1⟩)
            | (rw [e, ← hup, e3]; exact ⟨_, rfl, none, 0, rfl, Own.nil, Fr.none, hF1⟩)
            | (have hr0 : r = [] := List.eq_nil_of_length_eq_zero (by omega)
               subst hr0
               rw [up_nil] at hup
               rw [e, ← hup]
               exact ⟨_, rfl, o1, c2, rfl, ho1, hfr1, hF1⟩)
        ·
          refine Sl.calm (Cm.move rfl) rfl ?_
          refine Sl.want rfl rfl (Cm.move rfl) rfl ?_
          refine Sl.want rfl rfl (Cm.no (Cm.geq rfl rfl) (by omega)) rfl ?_
          refine Sl.want rfl rfl (Cm.move rfl) rfl ?_
          refine Sl.skip rfl rfl rfl rfl ?_
          refine Sl.skip rfl rfl rfl rfl ?_
          refine Sl.skip rfl rfl rfl rfl ?_
          refine Sl.skip rfl rfl rfl rfl ?_
          refine Sl.skip rfl rfl rfl rfl ?_
          refine Sl.skip rfl rfl rfl rfl ?_
          refine Sl.skip rfl rfl rfl rfl ?_
          refine Sl.want rfl rfl (Cm.pick_f rfl rfl) rfl ?_
          refine Sl.calm (Cm.pick_f rfl rfl) rfl ?_
          refine Sl.nil ?_
          refine At.weak [(0, _), (1, _), (6, _), (7, _), (8, _), (9, _), (16, _), (28, _), (47, _)] ⟨rfl, rfl, rfl, rfl, rfl, rfl, rfl, rfl, rfl, trivial⟩ ?_
          refine At.go ?_
          refine Sc.cond_f rfl ?_
          refine Sc.skip ?_
          refine At.go ?_
          refine Sc.seq ?_
          refine Sc.seq ?_
          refine Sc.region ?_
          refine Sl.calm (Cm.move rfl) rfl ?_
          refine Sl.calm (Cm.move rfl) rfl ?_
          refine Sl.calm (Cm.move rfl) rfl ?_
          refine Sl.calm (Cm.len sl25 rfl) rfl ?_
          refine Sl.calm (Cm.sub64 rfl rfl (by omega)) rfl ?_
          refine Sl.fork (Cm.gtr rfl rfl) rfl (fun h53 => ?_) (fun h53 => ?_)
          ·
            have e3 : up most r out = ([], 3) := by rw [hsm, if_neg (by omega), if_pos (by omega)]
            refine Sl.nil ?_
            refine At.weak [(0, _), (1, _), (6, _), (7, _), (8, _), (9, _), (16, _), (28, _), (47, _), (53, _)] ⟨rfl, rfl, rfl, rfl, rfl, rfl, rfl, rfl, rfl, rfl, trivial⟩ ?_
            refine At.go ?_
            refine Sc.cond_t rfl ?_
            refine Sc.seq ?_
            refine Sc.region ?_
            refine Sl.calm (Cm.assign rfl) rfl ?_
            refine Sl.calm (Cm.assign rfl) rfl ?_
            refine Sl.nil ?_
            refine At.go ?_
            refine Sc.ret ?_
            refine At.then_ret ?_
            refine At.block_ret ?_
            refine At.then_ret ?_
            refine At.block_ret ?_
            refine At.then_ret ?_
            refine At.ret2 rfl rfl rfl ?_
            first
              | (rw [e]; exact ⟨_, rfl, none, 0, rfl, Own.nil, Fr.none, Foot.refl _ _⟩)
              | (rw [e, ← hup, e2]; exact ⟨_, rfl, none, 0, rfl, Own.nil, Fr.none, hF1⟩)
              | (rw [e, ← hup, e3]; exact ⟨_, rfl, none, 0, rfl, Own.nil, Fr.none, hF1⟩)
              | (have hr0 : r = [] := List.eq_nil_of_length_eq_zero (by omega)
                 subst hr0
                 rw [up_nil] at hup
                 rw [e, ← hup]
                 exact ⟨_, rfl, o1, c2, rfl, ho1, hfr1, hF1⟩)
          ·
            have e4 : up most r out = up most (r.drop (t + 2)) (out ++ (r.drop 1).take (t + 1)) := by rw [hsm, if_neg (by omega), if_neg (by omega)]
            refine Sl.nil ?_
            refine At.weak [(0, _), (1, _), (6, _), (7, _), (8, _), (9, _), (16, _), (28, _), (47, _), (53, _)] ⟨rfl, rfl, rfl, rfl, rfl, rfl, rfl, rfl, rfl, rfl, trivial⟩ ?_
            refine At.go ?_
            refine Sc.cond_f rfl ?_
            refine Sc.skip ?_
            refine At.go ?_
            refine Sc.seq ?_
            refine Sc.seq ?_
            refine Sc.region ?_
            refine Sl.calm (Cm.move rfl) rfl ?_
            refine Sl.calm (Cm.yes (Cm.lss rfl rfl) (by omega)) rfl ?_
            refine Sl.nil ?_
            refine At.weak [(0, _), (1, _), (6, _), (7, _), (8, _), (9, _), (16, _), (28, _), (47, _), (53, _), (55, _)] ⟨rfl, rfl, rfl, rfl, rfl, rfl, rfl, rfl, rfl, rfl, rfl, trivial⟩ ?_
            refine At.go ?_
            refine Sc.cond_t rfl ?_
            refine Sc.region ?_
            refine Sl.calm (Cm.move rfl) rfl ?_
            refine Sl.calm (Cm.move rfl) rfl ?_
            refine Sl.calm (Cm.move rfl) rfl ?_
            refine Sl.calm (Cm.sliceH sl25 rfl rfl (by omega)) rfl ?_
            refine Sl.append b8_one sl25 (ys := (r.drop 1).take (t + 1)) rfl (by show some (Value.slice (cutAo (cutAo a1 c1 1 1) (c1 - 1) 0 1) ((t : Int) + 1).toNat (c1 - 1)) = _; rw [cutAo_zero, List.length_take, show ((t : Int) + 1).toNat = min (t + 1) (r.drop 1).length by omega]) ho1 (hv2.take _) (by rw [List.length_take]; omega) (by rw [List.length_take]; unfold maxLen; omega) rfl ?_
            intro o3 c3 w3 ho3 hf3 hr3 hn3
            have hz1 := hF1.size
            have hF3 : Foot nob W w3 := hF1.trans_to hf3 hfr1.step
            have hfr3 : Fr W.heap.size o3 := fr_next hfr1 hr3 hz1
            refine Sl.calm (Cm.assign rfl) rfl ?_
            refine Sl.nil ?_
            refine At.weak [(0, _), (1, _), (6, _), (7, _), (8, _), (9, _), (16, _), (28, _), (47, _), (53, _), (55, _)] ⟨rfl, rfl, rfl, rfl, rfl, rfl, rfl, rfl, rfl, rfl, rfl, trivial⟩ ?_
            refine At.go ?_
            refine Sc.region ?_
            refine Sl.calm (Cm.move rfl) rfl ?_
            refine Sl.calm (Cm.move rfl) rfl ?_
            refine Sl.calm (Cm.ofEq (u := .slice (cutAo (cutAo a1 c1 1 1) (c1 - 1) (t + 1) 1) (r.drop (t + 2)).length (c1 - 1 - (t + 1))) (Cm.sliceL sl25 rfl rfl (by omega)) (by rw [show ((t : Int) + 1).toNat = t + 1 by omega, List.length_drop, List.length_drop, show r.length - 1 - (t + 1) = r.length - (t + 2) by omega])) rfl ?_
            refine Sl.calm (Cm.assign rfl) rfl ?_
            refine Sl.nil ?_
            refine At.block_normal ?_
            have hv3 : Vw b8 W.heap (cutAo (cutAo a1 c1 1 1) (c1 - 1) (t + 1) 1) (c1 - 1 - (t + 1)) (r.drop (t + 2)) := by have := hv2W.cut (l := t + 1) (h := (r.drop 1).length) (m := c1 - 1) (by omega) (Nat.le_refl _) (by omega) (Nat.le_refl _); rwa [List.take_of_length_le (by rw [List.length_drop]; exact Nat.le_refl _), List.drop_drop, show 1 + (t + 1) = t + 2 by omega] at this
            refine At.again ⟨⟨r.drop (t + 2), cutAo (cutAo a1 c1 1 1) (c1 - 1) (t + 1) 1, c1 - 1 - (t + 1)⟩, ⟨out ++ (r.drop 1).take (t + 1), o3, c3⟩⟩ ⟨rfl, rfl, rfl, trivial⟩ ⟨by rw [← e4]; exact hup, hv3, ho3, hfr3, by rw [List.length_append, List.length_take, List.length_drop, List.length_drop]; omega, hF3⟩ (by show (r.drop (t + 2)).length < r.length; rw [List.length_drop]; omega)
    ·
      refine Sl.nil ?_
      refine At.weak [(0, _), (1, _), (6, _), (16, _)] ⟨rfl, rfl, rfl, rfl, trivial⟩ ?_
      refine At.go ?_
      refine Sc.cond_f rfl ?_
      refine Sc.exit ?_
      refine At.then_exit ?_
      refine At.then_exit ?_
      refine At.block_hit ?_
      refine At.go ?_
      refine Sc.seq ?_
      refine Sc.region ?_
      refine Sl.calm (Cm.move rfl) rfl ?_
      refine Sl.calm (Cm.assign rfl) rfl ?_
      refine Sl.calm (Cm.assign rfl) rfl ?_
      refine Sl.nil ?_
      refine At.weak [(0, _), (1, _), (4, _), (5, _), (6, _), (16, _)] ⟨rfl, rfl, rfl, rfl, rfl, rfl, trivial⟩ ?_
      refine At.go ?_
      refine Sc.ret ?_
      refine At.ret2 rfl rfl rfl ?_
      first
        | (rw [e]; exact ⟨_, rfl, none, 0, rfl, Own.nil, Fr.none, Foot.refl _ _⟩)
        | (rw [e, ← hup, e2]; exact ⟨_, rfl, none, 0, rfl, Own.nil, Fr.none, hF1⟩)
        | (rw [e, ← hup, e3]; exact ⟨_, rfl, none, 0, rfl, Own.nil, Fr.none, hF1⟩)
        | (have hr0 : r = [] := List.eq_nil_of_length_eq_zero (by omega)
           subst hr0
           rw [up_nil] at hup
           rw [e, ← hup]
           exact ⟨_, rfl, o1, c2, rfl, ho1, hfr1, hF1⟩)
end Go.Proofs.Ytoaplldahbbaiaa
/- lz: Unpack, the reference's. No condition beyond the bounds that each states. -/
namespace Go.Proofs.Ytoaplldahbbaiaa
open Go Go.RowKit
set_option linter.unusedVariables false

theorem getD_drop (b : List UInt8) (q i : Nat) : (b.drop q).getD i 0 = b.getD (q + i) 0 := by simp [List.getD]

set_option maxHeartbeats 2000000 in
theorem runpack_ok (ao : Option Addr) (cap : Nat) (b : List UInt8) (most : Int) (W : World) (hv : Vw b8 W.heap ao cap b) (hb : b.length ≤ 1073741824) (hm : most ≤ 9223372036854775807) :
    Calls Try.prog 116 [.slice ao b.length cap, .int .i64 most].toArray W (Ret (PutP W (upS b most))) := by
  have hle := hv.le
  refine calls_of_sc 104 [(0, _), (1, _)] Try.func116 rfl rfl rfl (enter_slots ⟨rfl, rfl, trivial⟩) ?_
  refine Sc.seq ?_
  refine Sc.region ?_
  refine Sl.calm (Cm.assign rfl) rfl ?_
  refine Sl.calm (Cm.assign rfl) rfl ?_
  refine Sl.nil ?_
  refine At.go ?_
  refine Sc.seq ?_
  refine Sc.seq ?_
  refine Sc.region ?_
  refine Sl.calm (Cm.move rfl) rfl ?_
  refine Sl.fork (Cm.lss rfl rfl) rfl (fun h12 => ?_) (fun h12 => ?_)
  ·
    have e : upS b most = ([], 1) := by unfold upS; rw [if_pos h12]
    refine Sl.nil ?_
    refine At.weak [(0, _), (1, _), (4, _), (5, _), (12, _)] ⟨rfl, rfl, rfl, rfl, rfl, trivial⟩ ?_
    refine At.go ?_
    refine Sc.cond_t rfl ?_
    refine Sc.seq ?_
    refine Sc.region ?_
    refine Sl.calm (Cm.assign rfl) rfl ?_
    refine Sl.calm (Cm.assign rfl) rfl ?_
    refine Sl.nil ?_
    refine At.go ?_
    refine Sc.ret ?_
    refine At.then_ret ?_
    refine At.ret2 rfl rfl rfl ?_
    first
      | (rw [e]; exact ⟨_, rfl, none, 0, rfl, Own.nil, Fr.none, Foot.refl _ _⟩)
      | (rw [e, ← hup, e2]; exact ⟨_, rfl, none, 0, rfl, Own.nil, Fr.none, hF1⟩)
      | (rw [e, ← hup, e3]; exact ⟨_, rfl, none, 0, rfl, Own.nil, Fr.none, hF1⟩)
      | (rw [List.drop_of_length_le (by omega), up_nil] at hup
         rw [e, ← hup]
         exact ⟨_, rfl, o1, c2, rfl, ho1, hfr1, hF1⟩)
  ·
    have e : upS b most = up most b [] := by unfold upS; rw [if_neg h12]
    refine Sl.nil ?_
    refine At.weak [(0, _), (1, _), (4, _), (5, _), (12, _)] ⟨rfl, rfl, rfl, rfl, rfl, trivial⟩ ?_
    refine At.go ?_
    refine Sc.cond_f rfl ?_
    refine Sc.skip ?_
    refine At.go ?_
    refine Sc.seq ?_
    refine Sc.region ?_
    refine Sl.lit0 b8 sl25 rfl ?_
    intro w0 ho0 hs0 hf0
    refine Sl.calm (Cm.assign rfl) rfl ?_
    refine Sl.nil ?_
    refine At.weak [(0, _), (1, _), (4, _), (5, _), (6, _), (12, _)] ⟨rfl, rfl, rfl, rfl, rfl, rfl, trivial⟩ ?_
    refine At.go ?_
    refine Sc.seq ?_
    refine Sc.region ?_
    refine Sl.calm (Cm.assign rfl) rfl ?_
    refine Sl.nil ?_
    refine At.go ?_
    refine Sc.seq ?_
    refine Sc.block ?_
    refine Sc.loop (β := Nat × List UInt8 × Option Addr × Nat) (fun ⟨q, out, o1, c2⟩ => [(0, .slice ao b.length cap), (1, .int .i64 most), (6, .slice o1 out.length c2), (7, .int .i64 q)]) (fun ⟨q, out, o1, c2⟩ w => q ≤ b.length ∧ up most (b.drop q) out = up most b [] ∧ Own b8 5 w.heap o1 c2 out ∧ Fr W.heap.size o1 ∧ out.length + 65 * (b.length - q) ≤ 65 * b.length ∧ Foot nob W w) (fun ⟨q, out, o1, c2⟩ => b.length - q) ⟨0, [], some ⟨W.heap.size, 0, none⟩, 0⟩ ⟨rfl, rfl, rfl, rfl, trivial⟩ ⟨Nat.zero_le _, rfl, ho0, fr_at _, by simp, hf0⟩ ?_
    rintro ⟨q, out, o1, c2⟩ w1 ⟨hq, hup, ho1, hfr1, hlen, hF1⟩
    have hv1 := hv.grow hF1
    refine Sc.seq ?_
    refine Sc.seq ?_
    refine Sc.region ?_
    refine Sl.calm (Cm.move rfl) rfl ?_
    refine Sl.calm (Cm.move rfl) rfl ?_
    refine Sl.calm (Cm.len sl25 rfl) rfl ?_
    refine Sl.fork (Cm.lss rfl rfl) rfl (fun h17 => ?_) (fun h17 => ?_)
    ·
      refine Sl.nil ?_
      refine At.weak [(0, _), (1, _), (6, _), (7, _), (17, _)] ⟨rfl, rfl, rfl, rfl, rfl, trivial⟩ ?_
      refine At.go ?_
      refine Sc.cond_t rfl ?_
      refine Sc.skip ?_
      refine At.go ?_
      refine Sc.block ?_
      refine Sc.seq ?_
      refine Sc.region ?_
      refine Sl.calm (Cm.move rfl) rfl ?_
      refine Sl.calm (Cm.move rfl) rfl ?_
      refine Sl.calm (Cm.indexAddr1 sl25 rfl rfl hv1.non (by omega)) rfl ?_
      refine Sl.calm (Cm.ld sca5 rfl (hv1.gz 0 q rfl (by omega))) rfl ?_
      obtain ⟨t, ht⟩ : ∃ t, t = (b.getD q 0).toNat := ⟨_, rfl⟩
      have ht256 : t < 256 := by have := (b.getD q 0).toNat_lt; omega
      have hd : (b.drop q).length = b.length - q := List.length_drop ..
      have ht2 : t = ((b.drop q).getD 0 0).toNat := by rw [getD_drop]; exact ht
      refine Sl.calm (Cm.convI_in (n := (t : Int)) is5 ty3 rfl (by rw [← ht]; exact wrap64_id (by omega))) rfl ?_
      refine Sl.calm (Cm.assign rfl) rfl ?_
      refine Sl.nil ?_
      refine At.weak [(0, _), (1, _), (6, _), (7, _), (8, _), (17, _)] ⟨rfl, rfl, rfl, rfl, rfl, rfl, trivial⟩ ?_
      refine At.go ?_
      refine Sc.seq ?_
      refine Sc.seq ?_
      refine Sc.region ?_
      refine Sl.calm (Cm.move rfl) rfl ?_
      refine Sl.fork (Cm.lss rfl rfl) rfl (fun h24 => ?_) (fun h24 => ?_)
      ·
        have hsm := up_small (most := most) (out := out) (by omega) ht2 (by omega)
        refine Sl.nil ?_
        refine At.weak [(0, _), (1, _), (6, _), (7, _), (8, _), (17, _), (24, _)] ⟨rfl, rfl, rfl, rfl, rfl, rfl, rfl, trivial⟩ ?_
        refine At.go ?_
        refine Sc.cond_t rfl ?_
        refine Sc.seq ?_
        refine Sc.seq ?_
        refine Sc.region ?_
        refine Sl.calm (Cm.move rfl) rfl ?_
        refine Sl.calm (Cm.len sl25 rfl) rfl ?_
        refine Sl.calm (Cm.move rfl) rfl ?_
        refine Sl.calm (Cm.sub64 rfl rfl (by omega)) rfl ?_
        refine Sl.calm (Cm.sub64 rfl rfl (by omega)) rfl ?_
        refine Sl.calm (Cm.move rfl) rfl ?_
        refine Sl.calm (Cm.add64 rfl rfl (by omega)) rfl ?_
        refine Sl.fork (Cm.lss rfl rfl) rfl (fun h32 => ?_) (fun h32 => ?_)
        ·
          have e2 : up most (b.drop q) out = ([], 2) := by rw [hsm, if_pos (by omega)]
          refine Sl.nil ?_
          refine At.weak [(0, _), (1, _), (6, _), (7, _), (8, _), (17, _), (24, _), (32, _)] ⟨rfl, rfl, rfl, rfl, rfl, rfl, rfl, rfl, trivial⟩ ?_
          refine At.go ?_
          refine Sc.cond_t rfl ?_
          refine Sc.seq ?_
          refine Sc.region ?_
          refine Sl.calm (Cm.assign rfl) rfl ?_
          refine Sl.calm (Cm.assign rfl) rfl ?_
          refine Sl.nil ?_
          refine At.go ?_
          refine Sc.ret ?_
          refine At.then_ret ?_
          refine At.then_ret ?_
          refine At.block_ret ?_
          refine At.then_ret ?_
          refine At.block_ret ?_
          refine At.then_ret ?_
          refine At.ret2 rfl rfl rfl ?_
          first
            | (rw [e]; exact ⟨_, rfl, none, 0, rfl, Own.nil, Fr.none, Foot.refl _ _⟩)
            | (rw [e, ← hup, e2]; exact ⟨_, rfl, none, 0, rfl, Own.nil, Fr.none, hF1⟩)
            | (rw [e, ← hup, e3]; exact ⟨_, rfl, none, 0, rfl, Own.nil, Fr.none, hF1⟩)
            | (rw [List.drop_of_length_le (by omega), up_nil] at hup
               rw [e, ← hup]
               exact ⟨_, rfl, o1, c2, rfl, ho1, hfr1, hF1⟩)
        ·
          refine Sl.nil ?_
          refine At.weak [(0, _), (1, _), (6, _), (7, _), (8, _), (17, _), (24, _), (32, _)] ⟨rfl, rfl, rfl, rfl, rfl, rfl, rfl, rfl, trivial⟩ ?_
          refine At.go ?_
          refine Sc.cond_f rfl ?_
          refine Sc.skip ?_
          refine At.go ?_
          refine Sc.seq ?_
          refine Sc.seq ?_
          refine Sc.region ?_
          refine Sl.calm (Cm.move rfl) rfl ?_
          refine Sl.calm (Cm.move rfl) rfl ?_
          refine Sl.calm (Cm.len sl25 rfl) rfl ?_
          refine Sl.calm (Cm.sub64 rfl rfl (by omega)) rfl ?_
          refine Sl.calm (Cm.move rfl) rfl ?_
          refine Sl.calm (Cm.add64 rfl rfl (by omega)) rfl ?_
          refine Sl.fork (Cm.lss rfl rfl) rfl (fun h39 => ?_) (fun h39 => ?_)
          ·
            have e3 : up most (b.drop q) out = ([], 3) := by rw [hsm, if_neg (by omega), if_pos (by omega)]
            refine Sl.nil ?_
            refine At.weak [(0, _), (1, _), (6, _), (7, _), (8, _), (17, _), (24, _), (32, _), (39, _)] ⟨rfl, rfl, rfl, rfl, rfl, rfl, rfl, rfl, rfl, trivial⟩ ?_
            refine At.go ?_
            refine Sc.cond_t rfl ?_
            refine Sc.seq ?_
            refine Sc.region ?_
            refine Sl.calm (Cm.assign rfl) rfl ?_
            refine Sl.calm (Cm.assign rfl) rfl ?_
            refine Sl.nil ?_
            refine At.go ?_
            refine Sc.ret ?_
            refine At.then_ret ?_
            refine At.then_ret ?_
            refine At.block_ret ?_
            refine At.then_ret ?_
            refine At.block_ret ?_
            refine At.then_ret ?_
            refine At.ret2 rfl rfl rfl ?_
            first
              | (rw [e]; exact ⟨_, rfl, none, 0, rfl, Own.nil, Fr.none, Foot.refl _ _⟩)
              | (rw [e, ← hup, e2]; exact ⟨_, rfl, none, 0, rfl, Own.nil, Fr.none, hF1⟩)
              | (rw [e, ← hup, e3]; exact ⟨_, rfl, none, 0, rfl, Own.nil, Fr.none, hF1⟩)
              | (rw [List.drop_of_length_le (by omega), up_nil] at hup
                 rw [e, ← hup]
                 exact ⟨_, rfl, o1, c2, rfl, ho1, hfr1, hF1⟩)
          ·
            have e4 : up most (b.drop q) out = up most (b.drop (q + t + 2)) (out ++ (b.drop (q + 1)).take (t + 1)) := by rw [hsm, if_neg (by omega), if_neg (by omega), List.drop_drop, List.drop_drop]; rfl
            refine Sl.nil ?_
            refine At.weak [(0, _), (1, _), (6, _), (7, _), (8, _), (17, _), (24, _), (32, _), (39, _)] ⟨rfl, rfl, rfl, rfl, rfl, rfl, rfl, rfl, rfl, trivial⟩ ?_
            refine At.go ?_
            refine Sc.cond_f rfl ?_
            refine Sc.skip ?_
            refine At.go ?_
            refine Sc.seq ?_
            refine Sc.region ?_
            refine Sl.calm (Cm.move rfl) rfl ?_
            refine Sl.calm (Cm.move rfl) rfl ?_
            refine Sl.calm (Cm.move rfl) rfl ?_
            refine Sl.calm (Cm.add64 rfl rfl (by omega)) rfl ?_
            refine Sl.calm (Cm.move rfl) rfl ?_
            refine Sl.calm (Cm.move rfl) rfl ?_
            refine Sl.calm (Cm.add64 rfl rfl (by omega)) rfl ?_
            refine Sl.calm (Cm.add64 rfl rfl (by omega)) rfl ?_
            refine Sl.calm (Cm.ofEq (u := .slice (cutAo ao cap (q + 1) 1) ((b.drop (q + 1)).take (t + 1)).length (cap - (q + 1))) (Cm.sliceLH sl25 rfl rfl rfl (by omega) (by omega)) (by rw [show ((q : Int) + 1).toNat = q + 1 by omega, show ((q : Int) + t + 2).toNat = q + t + 2 by omega, List.length_take, List.length_drop, show min (t + 1) (b.length - (q + 1)) = q + t + 2 - (q + 1) by omega])) rfl ?_
            have hv2 : Vw b8 w1.heap (cutAo ao cap (q + 1) 1) (cap - (q + 1)) ((b.drop (q + 1)).take (t + 1)) := by have := hv1.cut (l := q + 1) (h := q + t + 2) (m := cap) (by omega) (by omega) (by omega) (Nat.le_refl _); rwa [show q + t + 2 - (q + 1) = t + 1 by omega] at this
            have hl2 : ((b.drop (q + 1)).take (t + 1)).length = t + 1 := by rw [List.length_take, List.length_drop]; omega
            refine Sl.append b8_one sl25 rfl rfl ho1 hv2 (by omega) (by unfold maxLen; omega) rfl ?_
            intro o3 c3 w3 ho3 hf3 hr3 hn3
            have hz1 := hF1.size
            have hF3 : Foot nob W w3 := hF1.trans_to hf3 hfr1.step
            have hfr3 : Fr W.heap.size o3 := fr_next hfr1 hr3 hz1
            refine Sl.calm (Cm.assign rfl) rfl ?_
            refine Sl.nil ?_
            refine At.weak [(0, _), (1, _), (6, _), (7, _), (8, _), (17, _), (24, _), (32, _), (39, _)] ⟨rfl, rfl, rfl, rfl, rfl, rfl, rfl, rfl, rfl, trivial⟩ ?_
            refine At.go ?_
            refine Sc.seq ?_
            refine Sc.region ?_
            refine Sl.calm (Cm.move rfl) rfl ?_
            refine Sl.calm (Cm.move rfl) rfl ?_
            refine Sl.calm (Cm.add64 rfl rfl (by omega)) rfl ?_
            refine Sl.calm (Cm.add64 rfl rfl (by omega)) rfl ?_
            refine Sl.calm (Cm.assign rfl) rfl ?_
            refine Sl.nil ?_
            refine At.weak [(0, _), (1, _), (6, _), (7, _), (8, _), (17, _), (24, _), (32, _), (39, _)] ⟨rfl, rfl, rfl, rfl, rfl, rfl, rfl, rfl, rfl, trivial⟩ ?_
            refine At.go ?_
            refine Sc.exit ?_
            refine At.then_exit ?_
            refine At.block_hit ?_
            refine At.again ⟨q + t + 2, out ++ (b.drop (q + 1)).take (t + 1), o3, c3⟩ ⟨rfl, rfl, rfl, rfl, trivial⟩ ⟨by omega, by rw [← e4]; exact hup, ho3, hfr3, by rw [List.length_append]; omega, hF3⟩ (by show b.length - (q + t + 2) < b.length - q; omega)
      ·
        have hgr := up_great (most := most) (out := out) (by omega) ht2 (c := (b.getD (q + 1) 0).toNat) (by rw [getD_drop]) (by omega)
        refine Sl.nil ?_
        refine At.weak [(0, _), (1, _), (6, _), (7, _), (8, _), (17, _), (24, _)] ⟨rfl, rfl, rfl, rfl, rfl, rfl, rfl, trivial⟩ ?_
        refine At.go ?_
        refine Sc.cond_f rfl ?_
        refine Sc.skip ?_
        refine At.go ?_
        refine Sc.seq ?_
        refine Sc.seq ?_
        refine Sc.region ?_
        refine Sl.calm (Cm.move rfl) rfl ?_
        refine Sl.calm (Cm.len sl25 rfl) rfl ?_
        refine Sl.calm (Cm.move rfl) rfl ?_
        refine Sl.calm (Cm.sub64 rfl rfl (by omega)) rfl ?_
        refine Sl.fork (Cm.lss rfl rfl) rfl (fun h58 => ?_) (fun h58 => ?_)
        ·
          have e2 : up most (b.drop q) out = ([], 2) := by rw [hgr, if_pos (by omega)]
          refine Sl.calm (Cm.move rfl) rfl ?_
          refine Sl.skip rfl rfl rfl rfl ?_
          refine Sl.skip rfl rfl rfl rfl ?_
          refine Sl.skip rfl rfl rfl rfl ?_
          refine Sl.skip rfl rfl rfl rfl ?_
          refine Sl.skip rfl rfl rfl rfl ?_
          refine Sl.skip rfl rfl rfl rfl ?_
          refine Sl.skip rfl rfl rfl rfl ?_
          refine Sl.skip rfl rfl rfl rfl ?_
          refine Sl.skip rfl rfl rfl rfl ?_
          refine Sl.skip rfl rfl rfl rfl ?_
          refine Sl.calm (Cm.pick_t rfl rfl) rfl ?_
          refine Sl.nil ?_
          refine At.weak [(0, _), (1, _), (6, _), (7, _), (8, _), (17, _), (24, _), (70, _)] ⟨rfl, rfl, rfl, rfl, rfl, rfl, rfl, rfl, trivial⟩ ?_
          refine At.go ?_
          refine Sc.cond_t rfl ?_
          refine Sc.seq ?_
          refine Sc.region ?_
          refine Sl.calm (Cm.assign rfl) rfl ?_
          refine Sl.calm (Cm.assign rfl) rfl ?_
          refine Sl.nil ?_
          refine At.go ?_
          refine Sc.ret ?_
          refine At.then_ret ?_
          refine At.block_ret ?_
          refine At.then_ret ?_
          refine At.block_ret ?_
          refine At.then_ret ?_
          refine At.ret2 rfl rfl rfl ?_
          first
            | (rw [e]; exact ⟨_, rfl, none, 0, rfl, Own.nil, Fr.none, Foot.refl _ _⟩)
            | (rw [e, ← hup, e2]; exact ⟨_, rfl, none, 0, rfl, Own.nil, Fr.none, hF1⟩)
            | (rw [e, ← hup, e3]; exact ⟨_, rfl, none, 0, rfl, Own.nil, Fr.none, hF1⟩)
            | (rw [List.drop_of_length_le (by omega), up_nil] at hup
               rw [e, ← hup]
               exact ⟨_, rfl, o1, c2, rfl, ho1, hfr1, hF1⟩)
        ·
          refine Sl.calm (Cm.move rfl) rfl ?_
          refine Sl.want rfl rfl (Cm.move rfl) rfl ?_
          refine Sl.want rfl rfl (Cm.move rfl) rfl ?_
          refine Sl.want rfl rfl (Cm.add64 rfl rfl (by omega)) rfl ?_
          refine Sl.want rfl rfl (Cm.indexAddr1 sl25 rfl rfl hv1.non (by omega)) rfl ?_
          obtain ⟨c, hc⟩ : ∃ c, c = (b.getD (q + 1) 0).toNat := ⟨_, rfl⟩
          have hc256 : c < 256 := by have := (b.getD (q + 1) 0).toNat_lt; omega
          rw [← hc] at hgr
          refine Sl.want rfl rfl (Cm.ld sca5 rfl (hv1.gz 0 (q + 1) (by omega) (by omega))) rfl ?_
          refine Sl.want rfl rfl (Cm.convI_in (n := (c : Int)) is5 ty3 rfl (by rw [← hc]; exact wrap64_id (by omega))) rfl ?_
          refine Sl.want rfl rfl (Cm.add64 rfl rfl (by omega)) rfl ?_
          refine Sl.want rfl rfl (Cm.move rfl) rfl ?_
          refine Sl.want rfl rfl (Cm.len sl25 rfl) rfl ?_
          refine Sl.forkWant rfl rfl (Cm.gtr rfl rfl) rfl (fun h69 => ?_) (fun h69 => ?_)
          ·
            have e2 : up most (b.drop q) out = ([], 2) := by rw [hgr, if_neg (by omega), if_pos (by omega)]
            refine Sl.calm (Cm.pick_f rfl rfl) rfl ?_
            refine Sl.nil ?_
            refine At.weak [(0, _), (1, _), (6, _), (7, _), (8, _), (17, _), (24, _), (70, _)] ⟨rfl, rfl, rfl, rfl, rfl, rfl, rfl, rfl, trivial⟩ ?_
            refine At.go ?_
            refine Sc.cond_t rfl ?_
            refine Sc.seq ?_
            refine Sc.region ?_
            refine Sl.calm (Cm.assign rfl) rfl ?_
            refine Sl.calm (Cm.assign rfl) rfl ?_
            refine Sl.nil ?_
            refine At.go ?_
            refine Sc.ret ?_
            refine At.then_ret ?_
            refine At.block_ret ?_
            refine At.then_ret ?_
            refine At.block_ret ?_
            refine At.then_ret ?_
            refine At.ret2 rfl rfl rfl ?_
            first
              | (rw [e]; exact ⟨_, rfl, none, 0, rfl, Own.nil, Fr.none, Foot.refl _ _⟩)
              | (rw [e, ← hup, e2]; exact ⟨_, rfl, none, 0, rfl, Own.nil, Fr.none, hF1⟩)
              | (rw [e, ← hup, e3]; exact ⟨_, rfl, none, 0, rfl, Own.nil, Fr.none, hF1⟩)
              | (rw [List.drop_of_length_le (by omega), up_nil] at hup
                 rw [e, ← hup]
                 exact ⟨_, rfl, o1, c2, rfl, ho1, hfr1, hF1⟩)
          ·
            refine Sl.calm (Cm.pick_f rfl rfl) rfl ?_
            refine Sl.nil ?_
            refine At.weak [(0, _), (1, _), (6, _), (7, _), (8, _), (17, _), (24, _), (70, _)] ⟨rfl, rfl, rfl, rfl, rfl, rfl, rfl, rfl, trivial⟩ ?_
            refine At.go ?_
            refine Sc.cond_f rfl ?_
            refine Sc.skip ?_
            refine At.go ?_
            refine Sc.seq ?_
            refine Sc.seq ?_
            refine Sc.region ?_
            refine Sl.calm (Cm.move rfl) rfl ?_
            refine Sl.calm (Cm.move rfl) rfl ?_
            refine Sl.calm (Cm.len sl25 rfl) rfl ?_
            refine Sl.calm (Cm.sub64 rfl rfl (by omega)) rfl ?_
            refine Sl.calm (Cm.move rfl) rfl ?_
            refine Sl.calm (Cm.sub64 rfl rfl (by omega)) rfl ?_
            refine Sl.fork (Cm.lss rfl rfl) rfl (fun h77 => ?_) (fun h77 => ?_)
            ·
              have e3 : up most (b.drop q) out = ([], 3) := by rw [hgr, if_neg (by omega), if_neg (by omega), if_pos (by omega)]
              refine Sl.nil ?_
              refine At.weak [(0, _), (1, _), (6, _), (7, _), (8, _), (17, _), (24, _), (70, _), (77, _)] ⟨rfl, rfl, rfl, rfl, rfl, rfl, rfl, rfl, rfl, trivial⟩ ?_
              refine At.go ?_
              refine Sc.cond_t rfl ?_
              refine Sc.seq ?_
              refine Sc.region ?_
              refine Sl.calm (Cm.assign rfl) rfl ?_
              refine Sl.calm (Cm.assign rfl) rfl ?_
              refine Sl.nil ?_
              refine At.go ?_
              refine Sc.ret ?_
              refine At.then_ret ?_
              refine At.block_ret ?_
              refine At.then_ret ?_
              refine At.block_ret ?_
              refine At.then_ret ?_
              refine At.ret2 rfl rfl rfl ?_
              first
                | (rw [e]; exact ⟨_, rfl, none, 0, rfl, Own.nil, Fr.none, Foot.refl _ _⟩)
                | (rw [e, ← hup, e2]; exact ⟨_, rfl, none, 0, rfl, Own.nil, Fr.none, hF1⟩)
                | (rw [e, ← hup, e3]; exact ⟨_, rfl, none, 0, rfl, Own.nil, Fr.none, hF1⟩)
                | (rw [List.drop_of_length_le (by omega), up_nil] at hup
                   rw [e, ← hup]
                   exact ⟨_, rfl, o1, c2, rfl, ho1, hfr1, hF1⟩)
            ·
              have e4 : up most (b.drop q) out = up most (b.drop (q + 2)) (cp out (c + 1) (t - 125)) := by rw [hgr, if_neg (by omega), if_neg (by omega), if_neg (by omega), List.drop_drop]
              refine Sl.nil ?_
              refine At.weak [(0, _), (1, _), (6, _), (7, _), (8, _), (17, _), (24, _), (70, _), (77, _)] ⟨rfl, rfl, rfl, rfl, rfl, rfl, rfl, rfl, rfl, trivial⟩ ?_
              refine At.go ?_
              refine Sc.cond_f rfl ?_
              refine Sc.skip ?_
              refine At.go ?_
              refine Sc.seq ?_
              refine Sc.region ?_
              refine Sl.calm (Cm.move rfl) rfl ?_
              refine Sl.calm (Cm.move rfl) rfl ?_
              refine Sl.calm (Cm.add64 rfl rfl (by omega)) rfl ?_
              refine Sl.calm (Cm.indexAddr1 sl25 rfl rfl hv1.non (by omega)) rfl ?_
              refine Sl.calm (Cm.ld sca5 rfl (hv1.gz 0 (q + 1) (by omega) (by omega))) rfl ?_
              refine Sl.calm (Cm.convI_in (n := (c : Int)) is5 ty3 rfl (by rw [← hc]; exact wrap64_id (by omega))) rfl ?_
              refine Sl.calm (Cm.add64 rfl rfl (by omega)) rfl ?_
              refine Sl.calm (Cm.assign rfl) rfl ?_
              refine Sl.nil ?_
              refine At.weak [(0, _), (1, _), (6, _), (7, _), (8, _), (9, _), (17, _), (24, _), (70, _), (77, _)] ⟨rfl, rfl, rfl, rfl, rfl, rfl, rfl, rfl, rfl, rfl, trivial⟩ ?_
              refine At.go ?_
              refine Sc.seq ?_
              refine Sc.seq ?_
              refine Sc.region ?_
              refine Sl.calm (Cm.assign rfl) rfl ?_
              refine Sl.nil ?_
              refine At.go ?_
              refine Sc.block ?_
              refine Sc.loop (β := Nat × Option Addr × Nat) (fun ⟨k, o2, c3⟩ => [(0, .slice ao b.length cap), (1, .int .i64 most), (6, .slice o2 (cp out (c + 1) k).length c3), (7, .int .i64 q), (8, .int .i64 t), (9, .int .i64 ((c : Int) + 1)), (10, .int .i64 k), (24, .bool false)]) (fun ⟨k, o2, c3⟩ w => k ≤ t - 125 ∧ Own b8 5 w.heap o2 c3 (cp out (c + 1) k) ∧ Fr W.heap.size o2 ∧ Foot nob W w) (fun ⟨k, o2, c3⟩ => t - 125 - k) ⟨0, o1, c2⟩ ⟨rfl, rfl, rfl, rfl, rfl, rfl, rfl, rfl, trivial⟩ ⟨Nat.zero_le _, ho1, hfr1, hF1⟩ ?_
              rintro ⟨k, o2, c3⟩ w2 ⟨hk, ho2, hfr2, hF2⟩
              refine Sc.seq ?_
              refine Sc.seq ?_
              refine Sc.region ?_
              refine Sl.calm (Cm.move rfl) rfl ?_
              refine Sl.calm (Cm.move rfl) rfl ?_
              refine Sl.calm (Cm.sub64 rfl rfl (by omega)) rfl ?_
              refine Sl.fork (Cm.lss rfl rfl) rfl (fun h88 => ?_) (fun h88 => ?_)
              ·
                refine Sl.nil ?_
                refine At.weak [(0, _), (1, _), (6, _), (7, _), (8, _), (9, _), (10, _), (24, _), (88, _)] ⟨rfl, rfl, rfl, rfl, rfl, rfl, rfl, rfl, rfl, trivial⟩ ?_
                refine At.go ?_
                refine Sc.cond_t rfl ?_
                refine Sc.skip ?_
                refine At.go ?_
                refine Sc.seq ?_
                refine Sc.block ?_
                refine Sc.region ?_
                refine Sl.calm (Cm.move rfl) rfl ?_
                refine Sl.calm (Cm.move rfl) rfl ?_
                refine Sl.calm (Cm.move rfl) rfl ?_
                refine Sl.calm (Cm.len sl25 rfl) rfl ?_
                refine Sl.calm (Cm.move rfl) rfl ?_
                have hcl := cp_len (c + 1) k out
                refine Sl.calm (Cm.sub64 rfl rfl (by omega)) rfl ?_
                refine Sl.calm (Cm.indexAddr1 sl25 rfl rfl ho2.vw.non (by omega)) rfl ?_
                refine Sl.calm (Cm.ld sca5 rfl (ho2.vw.gz 0 (out.length + k - (c + 1)) (by omega) (by omega))) rfl ?_
                refine Sl.lit1 (enc := b8) (u := (cp out (c + 1) k).getD (out.length + k - (c + 1)) 0) sl25 rfl rfl rfl ?_
                intro w3 hol hsl hfl
                refine Sl.append b8_one sl25 rfl rfl (ho2.grow hfl) hol.vw (by simp only [List.length_singleton]; omega) (by simp only [List.length_singleton]; unfold maxLen; omega) rfl ?_
                intro o4 c4 w4 ho4 hf4 hr4 hn4
                have hz2 := hF2.size
                have hzl := hfl.size
                have hF4 : Foot nob W w4 := (hF2.trans hfl).trans_to hf4 hfr2.step
                have hfr4 : Fr W.heap.size o4 := fr_next hfr2 hr4 (by omega)
                have hsn : cp out (c + 1) k ++ [(cp out (c + 1) k).getD (out.length + k - (c + 1)) 0] = cp out (c + 1) (k + 1) := by rw [cp_snoc, hcl]
                rw [hsn] at ho4 ⊢
                refine Sl.calm (Cm.assign rfl) rfl ?_
                refine Sl.nil ?_
                refine At.block_normal ?_
                refine At.weak [(0, _), (1, _), (6, _), (7, _), (8, _), (9, _), (10, _), (24, _), (88, _)] ⟨rfl, rfl, rfl, rfl, rfl, rfl, rfl, rfl, rfl, trivial⟩ ?_
                refine At.go ?_
                refine Sc.region ?_
                refine Sl.calm (Cm.move rfl) rfl ?_
                refine Sl.calm (Cm.add64 rfl rfl (by omega)) rfl ?_
                refine Sl.calm (Cm.assign rfl) rfl ?_
                refine Sl.nil ?_
                exact At.again ⟨k + 1, o4, c4⟩ ⟨rfl, rfl, rfl, rfl, rfl, rfl, rfl, rfl, trivial⟩ ⟨by omega, ho4, hfr4, hF4⟩ (by show t - 125 - (k + 1) < t - 125 - k; omega)
              ·
                refine Sl.nil ?_
                refine At.weak [(0, _), (1, _), (6, _), (7, _), (8, _), (9, _), (10, _), (24, _), (88, _)] ⟨rfl, rfl, rfl, rfl, rfl, rfl, rfl, rfl, rfl, trivial⟩ ?_
                refine At.go ?_
                refine Sc.cond_f rfl ?_
                refine Sc.exit ?_
                refine At.then_exit ?_
                refine At.then_exit ?_
                refine At.block_hit ?_
                refine At.go ?_
                refine Sc.region ?_
                refine Sl.calm (Cm.move rfl) rfl ?_
                refine Sl.calm (Cm.add64 rfl rfl (by omega)) rfl ?_
                refine Sl.calm (Cm.assign rfl) rfl ?_
                refine Sl.nil ?_
                refine At.block_normal ?_
                have hkk : k = t - 125 := by omega
                have hcl := cp_len (c + 1) k out
                refine At.again ⟨q + 2, cp out (c + 1) k, o2, c3⟩ ⟨rfl, rfl, rfl, rfl, trivial⟩ ⟨by omega, by rw [hkk, ← e4]; exact hup, ho2, hfr2, by rw [hcl]; omega, hF2⟩ (by show b.length - (q + 2) < b.length - q; omega)
    ·
      refine Sl.nil ?_
      refine At.weak [(0, _), (1, _), (6, _), (7, _), (17, _)] ⟨rfl, rfl, rfl, rfl, rfl, trivial⟩ ?_
      refine At.go ?_
      refine Sc.cond_f rfl ?_
      refine Sc.exit ?_
      refine At.then_exit ?_
      refine At.then_exit ?_
      refine At.block_hit ?_
      refine At.go ?_
      refine Sc.seq ?_
      refine Sc.region ?_
      refine Sl.calm (Cm.move rfl) rfl ?_
      refine Sl.calm (Cm.assign rfl) rfl ?_
      refine Sl.calm (Cm.assign rfl) rfl ?_
      refine Sl.nil ?_
      refine At.weak [(0, _), (1, _), (4, _), (5, _), (6, _), (7, _), (17, _)] ⟨rfl, rfl, rfl, rfl, rfl, rfl, rfl, trivial⟩ ?_
      refine At.go ?_
      refine Sc.ret ?_
      refine At.ret2 rfl rfl rfl ?_
      first
        | (rw [e]; exact ⟨_, rfl, none, 0, rfl, Own.nil, Fr.none, Foot.refl _ _⟩)
        | (rw [e, ← hup, e2]; exact ⟨_, rfl, none, 0, rfl, Own.nil, Fr.none, hF1⟩)
        | (rw [e, ← hup, e3]; exact ⟨_, rfl, none, 0, rfl, Own.nil, Fr.none, hF1⟩)
        | (rw [List.drop_of_length_le (by omega), up_nil] at hup
           rw [e, ← hup]
           exact ⟨_, rfl, o1, c2, rfl, ho1, hfr1, hF1⟩)
end Go.Proofs.Ytoaplldahbbaiaa
/- lz: the places that begin likewise, in a map: noted, looked up. No condition beyond the bounds that each states. -/
namespace Go.Proofs.Ytoaplldahbbaiaa
open Go Go.RowKit
set_option linter.unusedVariables false

def cs3 (a : UInt8 × UInt8 × UInt8) : List Value := [b8 a.1, b8 a.2.1, b8 a.2.2]
def enc3 (a : UInt8 × UInt8 × UInt8) : Value := .agg (cs3 a).toArray
def nV (n : Nat) : Value := .int .i64 n
theorem nV_one : ∀ x, (nV x).oneCell' = true := fun _ => rfl
theorem arr3 : WideMaps.ArrKey Try.prog 185 5 3 := ⟨by kernel_rfl, by kernel_rfl, by kernel_rfl, by kernel_rfl⟩
theorem u8_wf (x : UInt8) : (Lit.int .u8 x.toNat).wf = true := by
  have := x.toNat_lt
  have h1 : IntKind.u8.min = 0 := rfl
  have h2 : IntKind.u8.max = 255 := rfl
  simp only [Lit.wf, h1, h2, Bool.and_eq_true, decide_eq_true_eq]
  omega
theorem key3 : KeyEnc Try.prog 185 enc3 := by
  refine ⟨Maps.Keyed.of_law arr3.law, fun a => ?_, fun a b h => ?_⟩
  · refine ⟨.string (keyBytes [.int .u8 a.1.toNat, .int .u8 a.2.1.toNat, .int .u8 a.2.2.toNat]), ?_⟩
    have hsz : ∃ m, Try.prog.types.size = m + 1 := ⟨Try.prog.types.size - 1, by kernel_rfl⟩
    have hkt := arr3.keyType hsz
    obtain ⟨m, hm⟩ := hsz
    unfold keyOf
    simp only [arr3.hu]
    rw [if_pos (by simp [hkt, Value.formed, arr3.hu, arr3.size, enc3, cs3]), hm]
    unfold Program.keyLits
    simp only [arr3.hu, Value.cells, enc3]
    rw [if_pos (by rw [arr3.size]; rfl), show List.range 3 = [0, 1, 2] from rfl, List.mapM_cons, List.mapM_cons, List.mapM_cons, List.mapM_nil]
    simp [arr3.one, Program.keyLits, u8_wf, cs3, b8]
  · simp only [enc3, cs3, Value.agg.injEq] at h
    have h2 := congrArg Array.toList h
    simp only [b8, List.cons.injEq, Value.int.injEq, true_and, and_true] at h2
    obtain ⟨e1, e2, e3⟩ := h2
    have f : ∀ x y : UInt8, (x.toNat : Int) = y.toNat → x = y := fun x y e => UInt8.toNat_inj.1 (by omega)
    exact Prod.ext (f _ _ e1) (Prod.ext (f _ _ e2) (f _ _ e3))
theorem mp3 : MapT Try.prog 162 185 22 (.slice none 0 0) := ⟨by kernel_rfl, z22⟩

/-- the places of b from lo up to hi, in memory; its blocks are of D -/
structure ChC (D : Nat → Prop) (H : Array Obj) (g : Nat) (b : List UInt8) (lo hi : Nat) (m : List ((UInt8 × UInt8 × UInt8) × Value)) (A : UInt8 × UInt8 × UInt8 → Option Addr) (C : UInt8 × UInt8 × UInt8 → Nat) : Prop where
  map : MapL enc3 H g m
  mine : D g
  val : ∀ a, (getM m a).getD (.slice none 0 0) = .slice (A a) (posL b lo hi a).length (C a)
  own : ∀ a, Own nV 3 H (A a) (C a) (posL b lo hi a)
  dom : ∀ a k, blk (A a) k → D k ∧ k ≠ g
  apart : ∀ a a', a ≠ a' → ∀ k, blk (A a) k → ¬ blk (A a') k
def ChM (D : Nat → Prop) (H : Array Obj) (g : Nat) (b : List UInt8) (lo hi : Nat) : Prop := ∃ m A C, ChC D H g b lo hi m A C
theorem ChM.keep {D S : Nat → Prop} {w w' : World} {g : Nat} {b : List UInt8} {lo hi : Nat} (h : ChM D w.heap g b lo hi) (f : Foot S w w') (hs : ∀ k, D k → ¬ S k) : ChM D w'.heap g b lo hi := by
  obtain ⟨m, A, C, h1, h2, h3, h4, h5, h6⟩ := h
  exact ⟨m, A, C, h1.keep f (hs _ h2), h2, h3, fun a => (h4 a).keep f (fun x hx => hs _ (h5 a _ ⟨x, hx, rfl⟩).1), h5, h6⟩
theorem ChM.new {D : Nat → Prop} {H : Array Obj} {g : Nat} (h : MapL enc3 H g []) (hD : D g) (b : List UInt8) (lo : Nat) : ChM D H g b lo lo := by
  have e : ∀ a, posL b lo lo a = [] := fun a => by unfold posL; simp
  exact ⟨[], fun _ => none, fun _ => 0, h, hD, fun a => by rw [e]; rfl, fun a => by rw [e]; exact Own.nil, fun a k ⟨x, hx, _⟩ => (by cases hx), fun a a' _ k ⟨x, hx, _⟩ => (by cases hx)⟩
theorem ChM.end {D : Nat → Prop} {H : Array Obj} {g : Nat} {b : List UInt8} {lo i j : Nat} (h : ChM D H g b lo i) (hlo : lo ≤ i) (hl : b.length < i + 3) (hij : i ≤ j) : ChM D H g b lo j := by
  obtain ⟨m, A, C, h1, h2, h3, h4, h5, h6⟩ := h
  exact ⟨m, A, C, h1, h2, fun a => by rw [posL_end a hlo hl hij]; exact h3 a, fun a => by rw [posL_end a hlo hl hij]; exact h4 a, h5, h6⟩
/-- one place more -/
theorem ChC.note {D : Nat → Prop} {H H' : Array Obj} {g : Nat} {b : List UInt8} {lo i : Nat} {m : List ((UInt8 × UInt8 × UInt8) × Value)} {A : UInt8 × UInt8 × UInt8 → Option Addr} {C : UInt8 × UInt8 × UInt8 → Nat}
    (h : ChC D H g b lo i m A C) (hlo : lo ≤ i) (hi : i + 3 ≤ b.length) {ao : Option Addr} {c : Nat} (hm : MapL enc3 H' g (setM m (st3 b i) (.slice ao (posL b lo i (st3 b i) ++ [i]).length c))) (ho : Own nV 3 H' ao c (posL b lo i (st3 b i) ++ [i]))
    (hd : ∀ k, blk ao k → D k ∧ k ≠ g ∧ ∀ a, a ≠ st3 b i → ¬ blk (A a) k) (hk : ∀ a, a ≠ st3 b i → Own nV 3 H' (A a) (C a) (posL b lo i a)) : ChM D H' g b lo (i + 1) := by
  obtain ⟨h1, h2, h3, h4, h5, h6⟩ := h
  refine ⟨_, fun a => if a = st3 b i then ao else A a, fun a => if a = st3 b i then c else C a, hm, h2, fun a => ?_, fun a => ?_, fun a k hb => ?_, fun a a' hne k hb hb' => ?_⟩
  · rw [setM_get, posL_snoc a hlo hi]
    by_cases e : a = st3 b i
    · rw [if_pos e, if_pos e, if_pos e, if_pos e, e]; rfl
    · rw [if_neg e, if_neg e, if_neg e, if_neg e]; exact h3 a
  · rw [posL_snoc a hlo hi]
    by_cases e : a = st3 b i
    · rw [if_pos e, if_pos e, if_pos e, e]; exact ho
    · rw [if_neg e, if_neg e, if_neg e]; exact hk a e
  · by_cases e : a = st3 b i
    · rw [if_pos e] at hb; exact ⟨(hd k hb).1, (hd k hb).2.1⟩
    · rw [if_neg e] at hb; exact h5 a k hb
  · by_cases e : a = st3 b i
    · rw [if_pos e] at hb
      rw [if_neg (fun e' => hne (by rw [e, e']))] at hb'
      exact (hd k hb).2.2 a' (fun e' => hne (by rw [e, e'])) hb'
    · rw [if_neg e] at hb
      by_cases e' : a' = st3 b i
      · rw [if_pos e'] at hb'; exact (hd k hb').2.2 a e hb
      · rw [if_neg e'] at hb'; exact h6 a a' hne k hb hb'
theorem cells3 {H : Array Obj} {ao : Option Addr} {cap : Nat} {b : List UInt8} (hv : Vw b8 H ao cap b) {i : Nat} (hi : i + 3 ≤ b.length) : ∀ j v, (cs3 (st3 b i))[j]? = some v → cellH H ((adr ao i).add j) = some v := by
  intro j v hj
  have e : ∀ q, q < 3 → cellH H ((adr ao i).add q) = some (b8 (b.getD (i + q) 0)) := fun q hq => by
    have := hv.gd 0 (i := i + q) (by omega)
    unfold adr at this ⊢
    rwa [adr_add]
  match j with
  | 0 => simp [cs3, st3] at hj; rw [← hj]; exact e 0 (by decide)
  | 1 => simp [cs3, st3] at hj; rw [← hj]; exact e 1 (by decide)
  | 2 => simp [cs3, st3] at hj; rw [← hj]; exact e 2 (by decide)
  | j + 3 => simp [cs3] at hj

set_option maxHeartbeats 1000000 in
theorem note_ok (D : Nat → Prop) (g : Nat) (ao : Option Addr) (cap : Nat) (b : List UInt8) (lo i hi : Nat) (W : World) (hv : Vw b8 W.heap ao cap b) (hap : ∀ k, blk ao k → ¬ D k) (hc : ChM D W.heap g b lo i) (hD : ∀ k, W.heap.size ≤ k → D k) (hlo : lo ≤ i) (hih : i ≤ hi) (hhi : hi ≤ b.length) (hb : b.length ≤ 1073741824) :
    Calls Try.prog 110 [.map (some g), .slice ao b.length cap, .int .i64 i, .int .i64 hi].toArray W (Ret fun v w' => ChM D w'.heap g b lo hi ∧ Foot D W w') := by
  refine calls_of_sc 36 [(0, _), (1, _), (2, _), (3, _)] Try.func110 rfl rfl rfl (enter_slots ⟨rfl, rfl, rfl, rfl, trivial⟩) ?_
  refine Sc.seq ?_
  refine Sc.region ?_
  refine Sl.calm (Cm.move rfl) rfl ?_
  refine Sl.calm (Cm.assign rfl) rfl ?_
  refine Sl.nil ?_
  refine At.weak [(0, _), (1, _), (2, _), (3, _), (8, _)] ⟨rfl, rfl, rfl, rfl, rfl, trivial⟩ ?_
  refine At.go ?_
  refine Sc.block ?_
  refine Sc.loop (β := Nat) (fun j => [(0, .map (some g)), (1, .slice ao b.length cap), (3, .int .i64 hi), (8, .int .i64 j)]) (fun j w => i ≤ j ∧ j ≤ hi ∧ ChM D w.heap g b lo j ∧ Foot D W w) (fun j => hi - j) i ⟨rfl, rfl, rfl, rfl, trivial⟩ ⟨Nat.le_refl _, hih, hc, Foot.refl _ _⟩ ?_
  rintro j w1 ⟨hij, hjh, hc1, hF1⟩
  have hv1 := hv.keep hF1 (fun a ha h => hap _ ⟨a, ha, rfl⟩ h)
  have hz1 := hF1.size
  refine Sc.seq ?_
  refine Sc.seq ?_
  refine Sc.region ?_
  refine Sl.calm (Cm.move rfl) rfl ?_
  refine Sl.calm (Cm.move rfl) rfl ?_
  refine Sl.fork (Cm.lss rfl rfl) rfl (fun h13 => ?_) (fun h13 => ?_)
  ·
    refine Sl.calm (Cm.move rfl) rfl ?_
    refine Sl.want rfl rfl (Cm.move rfl) rfl ?_
    refine Sl.want rfl rfl (Cm.add64 rfl rfl (by omega)) rfl ?_
    refine Sl.want rfl rfl (Cm.move rfl) rfl ?_
    refine Sl.want rfl rfl (Cm.len sl25 rfl) rfl ?_
    refine Sl.forkWant rfl rfl (Cm.leq rfl rfl) rfl (fun h19 => ?_) (fun h19 => ?_)
    ·
      refine Sl.calm (Cm.pick_t rfl rfl) rfl ?_
      refine Sl.nil ?_
      refine At.weak [(0, _), (1, _), (3, _), (8, _), (20, _)] ⟨rfl, rfl, rfl, rfl, rfl, trivial⟩ ?_
      refine At.go ?_
      refine Sc.cond_t rfl ?_
      refine Sc.skip ?_
      refine At.go ?_
      refine Sc.seq ?_
      refine Sc.block ?_
      refine Sc.seq ?_
      refine Sc.region ?_
      refine Sl.calm (Cm.move rfl) rfl ?_
      refine Sl.calm (Cm.move rfl) rfl ?_
      refine Sl.calm (Cm.sliceL sl25 rfl rfl (by omega)) rfl ?_
      refine Sl.calm (Cm.arrPtr Try.underlying185 rfl (hv1.non (by omega)) (by omega) (by have := hv1.le; omega)) rfl ?_
      refine Sl.calm (Cm.ldM (cs := cs3 (st3 b j)) agg185 rfl (cells3 hv1 (by omega))) rfl ?_
      refine Sl.allocC zc185 rfl ?_
      intro w2 hg2 hs2 hf2
      refine Sl.storeAll (vs := cs3 (st3 b j)) agg185 rfl rfl (by simp [cs3, b8, Value.oneCell']) hg2 rfl ?_
      intro w3 hg3 hs3 hf3
      have hf13 : Foot nob w1 w3 := hf2.trans_to hf3 (fun k hk => .inr (by have : k = w1.heap.size := hk; omega))
      have hz13 := hf13.size
      refine Sl.nil ?_
      refine At.weak [(0, _), (1, _), (3, _), (8, _), (9, _), (20, _)] ⟨rfl, rfl, rfl, rfl, rfl, rfl, trivial⟩ ?_
      refine At.go ?_
      refine Sc.region ?_
      refine Sl.calm (Cm.move rfl) rfl ?_
      refine Sl.calm (Cm.ldM (cs := cs3 (st3 b j)) agg185 rfl (fun j v hj => cellF hg3 hj)) rfl ?_
      refine Sl.calm (Cm.move rfl) rfl ?_
      refine Sl.lit1 (enc := nV) (u := j) sl22 rfl rfl rfl ?_
      intro w4 ho4 hs4 hf4
      have hf14 := hf13.trans hf4
      obtain ⟨m, A, C, hC⟩ := hc1
      have hmap4 := hC.map.keep hf14 id
      have hgl := hC.map.obj
      have hz4 := hf14.size
      refine Sl.mapEntry mp3 key3 rfl rfl hmap4 rfl ?_
      intro w5 j5 hm5 hj5 hs5 hf5
      rw [hC.val]
      refine Sl.calm (Cm.extract rfl rfl) rfl ?_
      refine Sl.append nV_one sl22 rfl rfl (((hC.own (st3 b j)).grow hf14).keep hf5 (fun a ha h => (hC.dom _ _ ⟨a, ha, rfl⟩).2 h)) ((ho4.keep hf5 (fun a ha h => by cases ha; have h : w3.heap.size = g := h; omega)).vw) (by have := posL_len b lo j (st3 b j); simp only [List.length_singleton]; omega) (by have := posL_len b lo j (st3 b j); simp only [List.length_singleton]; unfold maxLen; omega) rfl ?_
      intro a6 c6 w6 ho6 hf6 hr6 hn6
      have hm6 := hm5.keep hf6 (fun h => (hC.dom _ _ h).2 rfl)
      refine Sl.calm (Cm.extract rfl rfl) rfl ?_
      refine Sl.entryStore rfl rfl rfl hm6 hj5 ?_
      intro w7 hm7 hs7 hf7
      rw [entM_set] at hm7
      refine Sl.nil ?_
      refine At.block_normal ?_
      refine At.weak [(0, _), (1, _), (3, _), (8, _), (9, _), (20, _)] ⟨rfl, rfl, rfl, rfl, rfl, rfl, trivial⟩ ?_
      refine At.go ?_
      refine Sc.region ?_
      refine Sl.calm (Cm.move rfl) rfl ?_
      refine Sl.calm (Cm.add64 rfl rfl (by omega)) rfl ?_
      refine Sl.calm (Cm.assign rfl) rfl ?_
      refine Sl.nil ?_
      have hz5 := hf5.size
      have hz6 := hf6.size
      have hlt : ∀ a k, blk (A a) k → k < w1.heap.size := fun a k ⟨x, hx, hk⟩ => hk ▸ (hC.own a).lt x hx
      have hblk : ∀ k, blk a6 k → blk (A (st3 b j)) k ∨ w4.heap.size ≤ k := fun k ⟨x, hx, hk⟩ => by rcases hr6 x hx with h | h; exact .inl ⟨x, h, hk⟩; exact .inr (by omega)
      have hfx : ∀ a, a ≠ st3 b j → Own nV 3 w7.heap (A a) (C a) (posL b lo j a) := fun a hne => ((((hC.own a).grow hf14).keep hf5 (fun x hx h => (hC.dom a _ ⟨x, hx, rfl⟩).2 h)).keep hf6 (fun x hx h => hC.apart a _ hne _ ⟨x, hx, rfl⟩ h)).keep hf7 (fun x hx h => (hC.dom a _ ⟨x, hx, rfl⟩).2 h)
      have hnew : ChM D w7.heap g b lo (j + 1) := hC.note (by omega) (by omega) hm7 (ho6.keep hf7 (fun x hx h => by rcases hblk _ ⟨x, hx, rfl⟩ with h2 | h2; exact (hC.dom _ _ h2).2 h; have h : x.block = g := h; omega)) (fun k hk => by rcases hblk k hk with h2 | h2; exact ⟨(hC.dom _ _ h2).1, (hC.dom _ _ h2).2, fun a hne h3 => hC.apart a _ hne k h3 h2⟩; exact ⟨hD k (by omega), by omega, fun a hne h3 => by have := hlt a k h3; omega⟩) hfx
      have hF7 : Foot D W w7 := (((hF1.trans hf14.any).trans (hf5.mono (fun k h => by subst h; exact hC.mine))).trans (hf6.mono (fun k h => (hC.dom _ _ h).1))).trans (hf7.mono (fun k h => by subst h; exact hC.mine))
      exact At.again (j + 1) ⟨rfl, rfl, rfl, rfl, trivial⟩ ⟨by omega, by omega, hnew, hF7⟩ (by show hi - (j + 1) < hi - j; omega)
    ·
      refine Sl.calm (Cm.pick_t rfl rfl) rfl ?_
      refine Sl.nil ?_
      refine At.weak [(0, _), (1, _), (3, _), (8, _), (20, _)] ⟨rfl, rfl, rfl, rfl, rfl, trivial⟩ ?_
      refine At.go ?_
      refine Sc.cond_f rfl ?_
      refine Sc.exit ?_
      refine At.then_exit ?_
      refine At.then_exit ?_
      refine At.block_hit ?_
      refine At.end0 rfl ?_
      first
        | (have e : j = hi := by omega
           subst e
           exact ⟨_, rfl, hc1, hF1⟩)
        | exact ⟨_, rfl, hc1.end (by omega) (by omega) hjh, hF1⟩
  ·
    refine Sl.calm (Cm.move rfl) rfl ?_
    refine Sl.skip rfl rfl rfl rfl ?_
    refine Sl.skip rfl rfl rfl rfl ?_
    refine Sl.skip rfl rfl rfl rfl ?_
    refine Sl.skip rfl rfl rfl rfl ?_
    refine Sl.skip rfl rfl rfl rfl ?_
    refine Sl.calm (Cm.pick_f rfl rfl) rfl ?_
    refine Sl.nil ?_
    refine At.weak [(0, _), (1, _), (3, _), (8, _), (20, _)] ⟨rfl, rfl, rfl, rfl, rfl, trivial⟩ ?_
    refine At.go ?_
    refine Sc.cond_f rfl ?_
    refine Sc.exit ?_
    refine At.then_exit ?_
    refine At.then_exit ?_
    refine At.block_hit ?_
    refine At.end0 rfl ?_
    first
      | (have e : j = hi := by omega
         subst e
         exact ⟨_, rfl, hc1, hF1⟩)
      | exact ⟨_, rfl, hc1.end (by omega) (by omega) hjh, hF1⟩
end Go.Proofs.Ytoaplldahbbaiaa
/- lz: matches: the program's and the reference's. No condition beyond the bounds that each states. -/
namespace Go.Proofs.Ytoaplldahbbaiaa
open Go Go.RowKit
set_option linter.unusedVariables false

def foldR (b : List UInt8) (a : Nat) (L : List Nat) : Nat × Nat := L.reverse.foldl (stp b a) (0, 0)
theorem foldR_cons (b : List UInt8) (a i : Nat) (L : List Nat) : foldR b a (i :: L) = stp b a (foldR b a L) i := by
  unfold foldR; rw [List.reverse_cons, List.foldl_append]; rfl
theorem drop_at {L : List Nat} {j : Nat} (h : j < L.length) : L.drop j = L.getD j 0 :: L.drop (j + 1) := by
  rw [List.drop_eq_getElem_cons h, List.getD, List.getElem?_eq_getElem h]; rfl
theorem drewN_add (W : World) (n k : Nat) : (W.drewN n).drewN k = W.drewN (n + k) := by simp [World.drewN, Nat.add_assoc]
theorem nVw {H : Array Obj} {ao : Option Addr} {c : Nat} {L : List Nat} (h : Own nV 3 H ao c L) : Vw nV H ao c L := h.vw

set_option maxHeartbeats 1000000 in
theorem match_ok (D : Nat → Prop) (g : Nat) (ao : Option Addr) (cap : Nat) (b : List UInt8) (lo a : Nat) (W : World) (hv : Vw b8 W.heap ao cap b) (hc : ChM D W.heap g b lo a) (hlo : lo ≤ a - 256) (ha : a ≤ b.length) (hb : b.length ≤ 1073741824) :
    Calls Try.prog 109 [.map (some g), .slice ao b.length cap, .int .i64 a].toArray W (Ret fun v w' => v = .tuple [.int .i64 (mt b a).1, .int .i64 (mt b a).2].toArray ∧ ∃ n, w' = W.drewN n) := by
  obtain ⟨m, A, C, hC⟩ := hc
  refine calls_of_sc 60 [(0, _), (1, _), (2, _)] Try.func109 rfl rfl rfl (enter_slots ⟨rfl, rfl, rfl, trivial⟩) ?_
  refine Sc.seq ?_
  refine Sc.region ?_
  refine Sl.calm (Cm.assign rfl) rfl ?_
  refine Sl.calm (Cm.assign rfl) rfl ?_
  refine Sl.nil ?_
  refine At.go ?_
  refine Sc.seq ?_
  refine Sc.seq ?_
  refine Sc.region ?_
  refine Sl.calm (Cm.move rfl) rfl ?_
  refine Sl.fork (Cm.lss rfl rfl) rfl (fun h12 => ?_) (fun h12 => ?_)
  ·
    exact absurd h12 (by omega)
  ·
    refine Sl.calm (Cm.move rfl) rfl ?_
    refine Sl.want rfl rfl (Cm.move rfl) rfl ?_
    refine Sl.want rfl rfl (Cm.add64 rfl rfl (by omega)) rfl ?_
    refine Sl.want rfl rfl (Cm.move rfl) rfl ?_
    refine Sl.want rfl rfl (Cm.len sl25 rfl) rfl ?_
    refine Sl.forkWant rfl rfl (Cm.gtr rfl rfl) rfl (fun h18 => ?_) (fun h18 => ?_)
    ·
      have e : mt b a = (0, 0) := mt_short (by omega)
      refine Sl.calm (Cm.pick_f rfl rfl) rfl ?_
      refine Sl.nil ?_
      refine At.weak [(0, _), (1, _), (2, _), (6, _), (7, _), (19, _)] ⟨rfl, rfl, rfl, rfl, rfl, rfl, trivial⟩ ?_
      refine At.go ?_
      refine Sc.cond_t rfl ?_
      refine Sc.seq ?_
      refine Sc.region ?_
      refine Sl.calm (Cm.assign rfl) rfl ?_
      refine Sl.calm (Cm.assign rfl) rfl ?_
      refine Sl.nil ?_
      refine At.go ?_
      refine Sc.ret ?_
      refine At.then_ret ?_
      refine At.ret2 rfl rfl rfl ?_
      first
        | (rw [e]; exact ⟨_, rfl, rfl, 0, rfl⟩)
        | (have hj1 : j = 0 := by omega
           subst hj1
           rw [List.drop_zero] at hall ⊢
           have e2 : L.filter (fun i => decide (a - i ≤ 256)) = L := List.filter_eq_self.2 (fun i hi => by simpa using hall i hi)
           rw [e2] at hmp
           rw [hmp]
           exact ⟨_, rfl, rfl, n, rfl⟩)
        | (have e2 := sorted_cut hLs hj.1 (a := a) (by rw [← hp]; omega) (by rw [show j - 1 + 1 = j by omega]; exact hall)
           rw [show j - 1 + 1 = j by omega] at e2
           rw [e2] at hmp
           rw [hmp, hs]
           exact ⟨_, rfl, rfl, n, rfl⟩)
    ·
      have hmp := mt_pos (b := b) (lo := lo) (a := a) (by omega) hlo
      obtain ⟨L, hL⟩ : ∃ L, L = posL b lo a (st3 b a) := ⟨_, rfl⟩
      have hLs : L.Pairwise (· < ·) := by rw [hL]; exact posL_sorted b lo a _
      have hLm : ∀ i ∈ L, i < a := fun i hi => by rw [hL] at hi; exact (posL_mem.1 hi).2.1
      have hLl : L.length ≤ a - lo := by rw [hL]; exact posL_len b lo a _
      have hLo := nVw (hC.own (st3 b a))
      have hLv := hC.val (st3 b a)
      rw [← hL] at hmp hLo hLv
      obtain ⟨la, hla⟩ : ∃ x, x = A (st3 b a) := ⟨_, rfl⟩
      obtain ⟨lc, hlc⟩ : ∃ x, x = C (st3 b a) := ⟨_, rfl⟩
      rw [← hla, ← hlc] at hLo hLv
      refine Sl.calm (Cm.pick_f rfl rfl) rfl ?_
      refine Sl.nil ?_
      refine At.weak [(0, _), (1, _), (2, _), (6, _), (7, _), (19, _)] ⟨rfl, rfl, rfl, rfl, rfl, rfl, trivial⟩ ?_
      refine At.go ?_
      refine Sc.cond_f rfl ?_
      refine Sc.skip ?_
      refine At.go ?_
      refine Sc.seq ?_
      refine Sc.region ?_
      refine Sl.calm (Cm.move rfl) rfl ?_
      refine Sl.calm (Cm.move rfl) rfl ?_
      refine Sl.calm (Cm.move rfl) rfl ?_
      refine Sl.calm (Cm.sliceL sl25 rfl rfl (by omega)) rfl ?_
      refine Sl.calm (Cm.arrPtr Try.underlying185 rfl (hv.non (by omega)) (by omega) (by have := hv.le; omega)) rfl ?_
      refine Sl.calm (Cm.ldM (cs := cs3 (st3 b a)) agg185 rfl (cells3 hv (by omega))) rfl ?_
      refine Sl.calm (Cm.ofEq (u := .slice la L.length lc) (Cm.lookup mp3 key3 rfl rfl (fun _ e => by rw [e]; exact hC.map)) hLv) rfl ?_
      refine Sl.calm (Cm.assign rfl) rfl ?_
      refine Sl.nil ?_
      refine At.weak [(0, _), (1, _), (2, _), (6, _), (7, _), (8, _), (19, _)] ⟨rfl, rfl, rfl, rfl, rfl, rfl, rfl, trivial⟩ ?_
      refine At.go ?_
      refine Sc.seq ?_
      refine Sc.seq ?_
      refine Sc.region ?_
      refine Sl.calm (Cm.move rfl) rfl ?_
      refine Sl.calm (Cm.len sl22 rfl) rfl ?_
      refine Sl.calm (Cm.sub64 rfl rfl (by omega)) rfl ?_
      refine Sl.calm (Cm.assign rfl) rfl ?_
      refine Sl.nil ?_
      refine At.weak [(0, _), (1, _), (2, _), (6, _), (7, _), (8, _), (9, _), (19, _)] ⟨rfl, rfl, rfl, rfl, rfl, rfl, rfl, rfl, trivial⟩ ?_
      refine At.go ?_
      refine Sc.block ?_
      refine Sc.loop (β := Nat) (fun j => [(1, .slice ao b.length cap), (2, .int .i64 a), (6, .int .i64 (foldR b a (L.drop j)).1), (7, .int .i64 (foldR b a (L.drop j)).2), (8, .slice la L.length lc), (9, .int .i64 ((j : Int) - 1))]) (fun j w => j ≤ L.length ∧ (∀ i ∈ L.drop j, a - i ≤ 256) ∧ ∃ n, w = W.drewN n) (fun j => j) L.length ⟨rfl, rfl, (by rw [List.drop_length]; rfl), (by rw [List.drop_length]; rfl), rfl, rfl, trivial⟩ ⟨Nat.le_refl _, by rw [List.drop_length]; simp, 0, rfl⟩ ?_
      rintro j _ ⟨hj0, hall, n, rfl⟩
      refine Sc.seq ?_
      refine Sc.seq ?_
      refine Sc.region ?_
      refine Sl.calm (Cm.move rfl) rfl ?_
      refine Sl.fork (Cm.geq rfl rfl) rfl (fun h31 => ?_) (fun h31 => ?_)
      ·
        have hj : j - 1 < L.length ∧ 0 < j := by omega
        have hget : L.getD (j - 1) 0 < a := hLm _ (by rw [List.getD, List.getElem?_eq_getElem hj.1]; exact List.getElem_mem hj.1)
        have hdr := drop_at hj.1
        rw [show j - 1 + 1 = j by omega] at hdr
        obtain ⟨p, hp⟩ : ∃ p, p = L.getD (j - 1) 0 := ⟨_, rfl⟩
        rw [← hp] at hget hdr
        obtain ⟨s, hs⟩ : ∃ s, s = foldR b a (L.drop j) := ⟨_, rfl⟩
        have hs2 : foldR b a (L.drop (j - 1)) = stp b a s p := by rw [hdr, foldR_cons, hs]
        rw [← hs]
        refine Sl.nil ?_
        refine At.weak [(1, _), (2, _), (6, _), (7, _), (8, _), (9, _), (31, _)] ⟨rfl, rfl, rfl, rfl, rfl, rfl, rfl, trivial⟩ ?_
        refine At.go ?_
        refine Sc.cond_t rfl ?_
        refine Sc.skip ?_
        refine At.go ?_
        refine Sc.seq ?_
        refine Sc.block ?_
        refine Sc.seq ?_
        refine Sc.seq ?_
        refine Sc.region ?_
        refine Sl.calm (Cm.move rfl) rfl ?_
        refine Sl.calm (Cm.move rfl) rfl ?_
        refine Sl.calm (Cm.move rfl) rfl ?_
        refine Sl.calm (Cm.indexAddr1 sl22 rfl rfl hLo.non (by omega)) rfl ?_
        refine Sl.calm (Cm.ofEq (u := .int .i64 (p : Nat)) (Cm.ld sca3 rfl (hLo.gz 0 (j - 1) (by omega) (by omega))) (by rw [← hp]; rfl)) rfl ?_
        refine Sl.calm (Cm.sub64 rfl rfl (by omega)) rfl ?_
        refine Sl.fork (Cm.gtr rfl rfl) rfl (fun h40 => ?_) (fun h40 => ?_)
        ·
          refine Sl.nil ?_
          refine At.weak [(1, _), (2, _), (6, _), (7, _), (8, _), (9, _), (31, _), (40, _)] ⟨rfl, rfl, rfl, rfl, rfl, rfl, rfl, rfl, trivial⟩ ?_
          refine At.go ?_
          refine Sc.cond_t rfl ?_
          refine Sc.exit ?_
          refine At.then_exit ?_
          refine At.block_miss rfl ?_
          refine At.then_exit ?_
          refine At.then_exit ?_
          refine At.block_hit ?_
          refine At.go ?_
          refine Sc.seq ?_
          refine Sc.region ?_
          refine Sl.calm (Cm.move rfl) rfl ?_
          refine Sl.calm (Cm.move rfl) rfl ?_
          refine Sl.calm (Cm.assign rfl) rfl ?_
          refine Sl.calm (Cm.assign rfl) rfl ?_
          refine Sl.nil ?_
          refine At.weak [(1, _), (2, _), (6, _), (7, _), (8, _), (9, _), (31, _), (40, _)] ⟨rfl, rfl, rfl, rfl, rfl, rfl, rfl, rfl, trivial⟩ ?_
          refine At.go ?_
          refine Sc.ret ?_
          refine At.ret2 rfl rfl rfl ?_
          first
            | (rw [e]; exact ⟨_, rfl, rfl, 0, rfl⟩)
            | (have hj1 : j = 0 := by omega
               subst hj1
               rw [List.drop_zero] at hall ⊢
               have e2 : L.filter (fun i => decide (a - i ≤ 256)) = L := List.filter_eq_self.2 (fun i hi => by simpa using hall i hi)
               rw [e2] at hmp
               rw [hmp]
               exact ⟨_, rfl, rfl, n, rfl⟩)
            | (have e2 := sorted_cut hLs hj.1 (a := a) (by rw [← hp]; omega) (by rw [show j - 1 + 1 = j by omega]; exact hall)
               rw [show j - 1 + 1 = j by omega] at e2
               rw [e2] at hmp
               rw [hmp, hs]
               exact ⟨_, rfl, rfl, n, rfl⟩)
        ·
          refine Sl.nil ?_
          refine At.weak [(1, _), (2, _), (6, _), (7, _), (8, _), (9, _), (31, _), (40, _)] ⟨rfl, rfl, rfl, rfl, rfl, rfl, rfl, rfl, trivial⟩ ?_
          refine At.go ?_
          refine Sc.cond_f rfl ?_
          refine Sc.skip ?_
          refine At.go ?_
          refine Sc.seq ?_
          refine Sc.region ?_
          refine Sl.calm (Cm.move rfl) rfl ?_
          refine Sl.calm (Cm.move rfl) rfl ?_
          refine Sl.calm (Cm.move rfl) rfl ?_
          refine Sl.calm (Cm.move rfl) rfl ?_
          refine Sl.calm (Cm.indexAddr1 sl22 rfl rfl hLo.non (by omega)) rfl ?_
          refine Sl.calm (Cm.ofEq (u := .int .i64 (p : Nat)) (Cm.ld sca3 rfl (hLo.gz 0 (j - 1) (by omega) (by omega))) (by rw [← hp]; rfl)) rfl ?_
          refine Sl.call fn128 rfl (like_ok ao cap b a p _ hv ha hget hb) rfl ?_
          rintro _ _ ⟨rfl, n2, rfl⟩
          refine Sl.calm (Cm.assign rfl) rfl ?_
          refine Sl.nil ?_
          refine At.weak [(1, _), (2, _), (6, _), (7, _), (8, _), (9, _), (10, _), (31, _), (40, _)] ⟨rfl, rfl, rfl, rfl, rfl, rfl, rfl, rfl, rfl, trivial⟩ ?_
          refine At.go ?_
          refine Sc.seq ?_
          refine Sc.region ?_
          refine Sl.calm (Cm.move rfl) rfl ?_
          refine Sl.calm (Cm.move rfl) rfl ?_
          refine Sl.fork (Cm.gtr rfl rfl) rfl (fun h50 => ?_) (fun h50 => ?_)
          ·
            have hst : stp b a s p = (lik b a p, a - p) := by unfold stp; rw [if_pos (by omega)]
            refine Sl.nil ?_
            refine At.weak [(1, _), (2, _), (6, _), (7, _), (8, _), (9, _), (10, _), (31, _), (40, _), (50, _)] ⟨rfl, rfl, rfl, rfl, rfl, rfl, rfl, rfl, rfl, rfl, trivial⟩ ?_
            refine At.go ?_
            refine Sc.cond_t rfl ?_
            refine Sc.quiet 9 [0, 1, 2, 3, 4, 5, 6, 7, 8] mixed (by kernel_rfl) ?_
            refine Sx.calm rfl rfl (Cm.move rfl) rfl ?_
            refine Sx.calm rfl rfl (Cm.move rfl) rfl ?_
            refine Sx.calm rfl rfl (Cm.move rfl) rfl ?_
            refine Sx.calm rfl rfl (Cm.move rfl) rfl ?_
            refine Sx.calm rfl rfl (Cm.indexAddr1 sl22 rfl rfl hLo.non (by omega)) rfl ?_
            refine Sx.calm rfl rfl (Cm.ofEq (u := .int .i64 (p : Nat)) (Cm.ld sca3 rfl (hLo.gz 0 (j - 1) (by omega) (by omega))) (by rw [← hp]; rfl)) rfl ?_
            refine Sx.calm rfl rfl (Cm.sub64 rfl rfl (by omega)) rfl ?_
            refine Sx.calm rfl rfl (Cm.assign rfl) rfl ?_
            refine Sx.calm rfl rfl (Cm.assign rfl) rfl ?_
            refine Sx.nil ?_
            refine At.block_normal ?_
            refine At.weak [(1, _), (2, _), (6, _), (7, _), (8, _), (9, _), (10, _), (31, _), (40, _), (50, _)] ⟨rfl, rfl, rfl, rfl, rfl, rfl, rfl, rfl, rfl, rfl, trivial⟩ ?_
            refine At.go ?_
            refine Sc.region ?_
            refine Sl.calm (Cm.move rfl) rfl ?_
            refine Sl.calm (Cm.sub64 rfl rfl (by omega)) rfl ?_
            refine Sl.calm (Cm.assign rfl) rfl ?_
            refine Sl.nil ?_
            refine At.again (j - 1) ⟨rfl, rfl, ?_, ?_, rfl, ?_, trivial⟩ ⟨by omega, ?_, n + n2 + 1, by rw [drewN_add, drewN_add, Nat.add_assoc]⟩ (by show j - 1 < j; omega)
            · show some (Value.int .i64 _) = some (Value.int .i64 _); rw [hs2, hst]
            · show some (Value.int .i64 _) = some (Value.int .i64 _); rw [hs2, hst]; congr 2; omega
            · show some (Value.int .i64 _) = some (Value.int .i64 _); congr 2; omega
            · rw [hdr]; intro i hi; rcases List.mem_cons.1 hi with h | h; rw [h]; omega; exact hall i h
          ·
            have hst : stp b a s p = s := by unfold stp; rw [if_neg (by omega)]
            refine Sl.nil ?_
            refine At.weak [(1, _), (2, _), (6, _), (7, _), (8, _), (9, _), (10, _), (31, _), (40, _), (50, _)] ⟨rfl, rfl, rfl, rfl, rfl, rfl, rfl, rfl, rfl, rfl, trivial⟩ ?_
            refine At.go ?_
            refine Sc.cond_f rfl ?_
            refine Sc.skip ?_
            refine At.block_normal ?_
            refine At.go ?_
            refine Sc.region ?_
            refine Sl.calm (Cm.move rfl) rfl ?_
            refine Sl.calm (Cm.sub64 rfl rfl (by omega)) rfl ?_
            refine Sl.calm (Cm.assign rfl) rfl ?_
            refine Sl.nil ?_
            refine At.again (j - 1) ⟨rfl, rfl, ?_, ?_, rfl, ?_, trivial⟩ ⟨by omega, ?_, n + n2, drewN_add _ _ _⟩ (by show j - 1 < j; omega)
            · show some (Value.int .i64 _) = some (Value.int .i64 _); rw [hs2, hst]
            · show some (Value.int .i64 _) = some (Value.int .i64 _); rw [hs2, hst]
            · show some (Value.int .i64 _) = some (Value.int .i64 _); congr 2; omega
            · rw [hdr]; intro i hi; rcases List.mem_cons.1 hi with h | h; rw [h]; omega; exact hall i h
      ·
        refine Sl.nil ?_
        refine At.weak [(1, _), (2, _), (6, _), (7, _), (8, _), (9, _), (31, _)] ⟨rfl, rfl, rfl, rfl, rfl, rfl, rfl, trivial⟩ ?_
        refine At.go ?_
        refine Sc.cond_f rfl ?_
        refine Sc.exit ?_
        refine At.then_exit ?_
        refine At.then_exit ?_
        refine At.block_hit ?_
        refine At.go ?_
        refine Sc.seq ?_
        refine Sc.region ?_
        refine Sl.calm (Cm.move rfl) rfl ?_
        refine Sl.calm (Cm.move rfl) rfl ?_
        refine Sl.calm (Cm.assign rfl) rfl ?_
        refine Sl.calm (Cm.assign rfl) rfl ?_
        refine Sl.nil ?_
        refine At.weak [(1, _), (2, _), (6, _), (7, _), (8, _), (9, _), (31, _)] ⟨rfl, rfl, rfl, rfl, rfl, rfl, rfl, trivial⟩ ?_
        refine At.go ?_
        refine Sc.ret ?_
        refine At.ret2 rfl rfl rfl ?_
        first
          | (rw [e]; exact ⟨_, rfl, rfl, 0, rfl⟩)
          | (have hj1 : j = 0 := by omega
             subst hj1
             rw [List.drop_zero] at hall ⊢
             have e2 : L.filter (fun i => decide (a - i ≤ 256)) = L := List.filter_eq_self.2 (fun i hi => by simpa using hall i hi)
             rw [e2] at hmp
             rw [hmp]
             exact ⟨_, rfl, rfl, n, rfl⟩)
          | (have e2 := sorted_cut hLs hj.1 (a := a) (by rw [← hp]; omega) (by rw [show j - 1 + 1 = j by omega]; exact hall)
             rw [show j - 1 + 1 = j by omega] at e2
             rw [e2] at hmp
             rw [hmp, hs]
             exact ⟨_, rfl, rfl, n, rfl⟩)

def mtZ (b : List UInt8) (a : Int) : Nat × Nat := if a < 0 then (0, 0) else mt b a.toNat
theorem mtZ_none {b : List UInt8} {a : Int} (h : a < 0 ∨ b.length ≤ a) : mtZ b a = (0, 0) := by
  unfold mtZ
  split
  · rfl
  · exact mt_short (by omega)
end Go.Proofs.Ytoaplldahbbaiaa
/- lz: Pack: the program's and the reference's. No condition beyond the bounds that each states. -/
namespace Go.Proofs.Ytoaplldahbbaiaa
open Go Go.RowKit
set_option linter.unusedVariables false

theorem ChM.mono {D D' : Nat → Prop} {H : Array Obj} {g : Nat} {b : List UInt8} {lo hi : Nat} (h : ChM D H g b lo hi) (hd : ∀ k, D k → D' k) : ChM D' H g b lo hi := by
  obtain ⟨m, A, C, h1, h2, h3, h4, h5, h6⟩ := h
  exact ⟨m, A, C, h1, hd _ h2, h3, h4, fun a k hk => ⟨hd _ (h5 a k hk).1, (h5 a k hk).2⟩, h6⟩
theorem ChM.low {D : Nat → Prop} {H : Array Obj} {g : Nat} {b : List UInt8} {lo hi : Nat} (h : ChM D H g b lo hi) : ChM (fun k => D k ∧ k < H.size) H g b lo hi := by
  obtain ⟨m, A, C, h1, h2, h3, h4, h5, h6⟩ := h
  exact ⟨m, A, C, h1, ⟨h2, h1.obj⟩, h3, h4, fun a k hk => ⟨⟨(h5 a k hk).1, by obtain ⟨x, hx, e⟩ := hk; rw [← e]; exact (h4 a).lt x hx⟩, (h5 a k hk).2⟩, h6⟩
def pkR (b : List UInt8) : List UInt8 × Int := if 4096 < b.length then ([], 3) else (pkS b, 0)
theorem pkR_fit {b : List UInt8} (h : b.length ≤ 4096) : pkR b = (pkS b, 0) := by unfold pkR; rw [if_neg (by omega)]
theorem mtZ_nat (b : List UInt8) (a : Nat) : mtZ b (a : Int) = mt b a := by unfold mtZ; rw [if_neg (by omega)]; rfl
theorem part_snoc {b : List UInt8} {a f : Nat} (hf : f ≤ a) (h : a < b.length) : (b.take a).drop f ++ [b.getD a 0] = (b.take (a + 1)).drop f := by
  rw [List.take_succ_eq_append_getElem h, List.drop_append_of_le_length (by rw [List.length_take]; omega), List.getD, List.getElem?_eq_getElem h]; rfl
theorem part_len {b : List UInt8} {a f : Nat} (h : a ≤ b.length) : ((b.take a).drop f).length = a - f := by rw [List.length_drop, List.length_take]; omega
theorem part_vw {H : Array Obj} {ao : Option Addr} {cap : Nat} {b : List UInt8} (hv : Vw b8 H ao cap b) {a f : Nat} (hf : f ≤ a) (ha : a ≤ b.length) : Vw b8 H (cutAo ao cap f 1) (cap - f) ((b.take a).drop f) := by
  have h := hv.cut (l := f) (h := a) (m := cap) hf ha (by have := hv.le; omega) (Nat.le_refl _)
  rwa [List.drop_take]
theorem out_wrap {x : Int} {n : Nat} (h : x = n) : IntKind.u8.wrap x = ((UInt8.ofNat n).toNat : Int) := by rw [wrap_byteN (by omega), h]; rfl

set_option maxHeartbeats 2000000 in
theorem pack_ok (ao : Option Addr) (cap : Nat) (b : List UInt8) (W : World) (hv : Vw b8 W.heap ao cap b) :
    Calls Try.prog 100 [.slice ao b.length cap].toArray W (Ret (PutP W (pkR b))) := by
  have hle := hv.le
  refine calls_of_sc 65 [(0, _)] Try.func100 rfl rfl rfl (enter_slots ⟨rfl, trivial⟩) ?_
  refine Sc.seq ?_
  refine Sc.region ?_
  refine Sl.calm (Cm.assign rfl) rfl ?_
  refine Sl.calm (Cm.assign rfl) rfl ?_
  refine Sl.nil ?_
  refine At.go ?_
  refine Sc.seq ?_
  refine Sc.seq ?_
  refine Sc.region ?_
  refine Sl.calm (Cm.move rfl) rfl ?_
  refine Sl.calm (Cm.len sl25 rfl) rfl ?_
  refine Sl.fork (Cm.gtr rfl rfl) rfl (fun h12 => ?_) (fun h12 => ?_)
  ·
    have e : pkR b = ([], 3) := by unfold pkR; rw [if_pos (by omega)]
    refine Sl.nil ?_
    refine At.weak [(0, _), (2, _), (3, _), (12, _)] ⟨rfl, rfl, rfl, rfl, trivial⟩ ?_
    refine At.go ?_
    refine Sc.cond_t rfl ?_
    refine Sc.seq ?_
    refine Sc.region ?_
    refine Sl.calm (Cm.assign rfl) rfl ?_
    refine Sl.calm (Cm.assign rfl) rfl ?_
    refine Sl.nil ?_
    refine At.go ?_
    refine Sc.ret ?_
    refine At.then_ret ?_
    refine At.ret2 rfl rfl rfl ?_
    first
      | (rw [e]; exact ⟨_, rfl, none, 0, rfl, Own.nil, Fr.none, Foot.refl _ _⟩)
      | (rw [e, ← hpk]; exact ⟨_, rfl, o3, c3, rfl, ho3, fr_next hfr1 hr3 hz1, hF1.trans_to hf3 hfr1.step⟩)
  ·
    have e : pkR b = (pkS b, 0) := by unfold pkR; rw [if_neg (by omega)]
    refine Sl.nil ?_
    refine At.weak [(0, _), (2, _), (3, _), (12, _)] ⟨rfl, rfl, rfl, rfl, trivial⟩ ?_
    refine At.go ?_
    refine Sc.cond_f rfl ?_
    refine Sc.skip ?_
    refine At.go ?_
    refine Sc.seq ?_
    refine Sc.region ?_
    refine Sl.makeMap (enc := enc3) rfl ?_
    intro w0 hm0 hs0 hf0
    refine Sl.calm (Cm.assign rfl) rfl ?_
    refine Sl.nil ?_
    refine At.weak [(0, _), (2, _), (3, _), (4, _), (12, _)] ⟨rfl, rfl, rfl, rfl, rfl, trivial⟩ ?_
    refine At.go ?_
    refine Sc.seq ?_
    refine Sc.region ?_
    refine Sl.calm (Cm.assign rfl) rfl ?_
    refine Sl.nil ?_
    refine At.go ?_
    refine Sc.seq ?_
    refine Sc.region ?_
    refine Sl.calm (Cm.assign rfl) rfl ?_
    refine Sl.nil ?_
    refine At.go ?_
    refine Sc.seq ?_
    refine Sc.seq ?_
    refine Sc.region ?_
    refine Sl.calm (Cm.assign rfl) rfl ?_
    refine Sl.nil ?_
    refine At.go ?_
    refine Sc.block ?_
    refine Sc.loop (β := Nat × Nat × List UInt8 × Option Addr × Nat) (fun ⟨a, f, out, o1, c1⟩ => [(0, .slice ao b.length cap), (4, .map (some W.heap.size)), (5, .slice o1 out.length c1), (6, .int .i64 f), (7, .int .i64 a)]) (fun ⟨a, f, out, o1, c1⟩ w => f ≤ a ∧ a ≤ b.length ∧ pk b a ((b.take a).drop f) out = pkS b ∧ ChM (fun k => W.heap.size ≤ k ∧ ¬ blk o1 k) w.heap W.heap.size b 0 a ∧ Own b8 5 w.heap o1 c1 out ∧ Fr W.heap.size o1 ∧ out.length ≤ 3 * f ∧ Foot nob W w) (fun ⟨a, f, out, o1, c1⟩ => b.length - a) ⟨0, 0, [], none, 0⟩ ⟨rfl, rfl, rfl, rfl, rfl, trivial⟩ ⟨Nat.le_refl _, Nat.zero_le _, rfl, ChM.new hm0 ⟨Nat.le_refl _, fun ⟨x, hx, _⟩ => by cases hx⟩ b 0, Own.nil, Fr.none, Nat.le_refl _, hf0⟩ ?_
    rintro ⟨a, f, out, o1, c1⟩ w1 ⟨hf, ha, hpk, hc1, ho1, hfr1, hol, hF1⟩
    have hv1 := hv.grow hF1
    have hz1 := hF1.size
    refine Sc.seq ?_
    refine Sc.seq ?_
    refine Sc.region ?_
    refine Sl.calm (Cm.move rfl) rfl ?_
    refine Sl.calm (Cm.move rfl) rfl ?_
    refine Sl.calm (Cm.len sl25 rfl) rfl ?_
    refine Sl.fork (Cm.lss rfl rfl) rfl (fun h17 => ?_) (fun h17 => ?_)
    ·
      have hltA := vw_lt hv (show 0 < b.length by omega)
      refine Sl.nil ?_
      refine At.weak [(0, _), (4, _), (5, _), (6, _), (7, _), (17, _)] ⟨rfl, rfl, rfl, rfl, rfl, rfl, trivial⟩ ?_
      refine At.go ?_
      refine Sc.cond_t rfl ?_
      refine Sc.skip ?_
      refine At.go ?_
      refine Sc.block ?_
      refine Sc.seq ?_
      refine Sc.region ?_
      refine Sl.calm (Cm.move rfl) rfl ?_
      refine Sl.calm (Cm.move rfl) rfl ?_
      refine Sl.calm (Cm.move rfl) rfl ?_
      refine Sl.call fn109 rfl (match_ok _ W.heap.size ao cap b 0 a w1 hv1 hc1 (Nat.zero_le _) ha (by omega)) rfl ?_
      rintro _ _ ⟨rfl, d1, rfl⟩
      obtain ⟨n, hn⟩ : ∃ n, n = (mt b a).1 := ⟨_, rfl⟩
      obtain ⟨bk, hbk⟩ : ∃ x, x = (mt b a).2 := ⟨_, rfl⟩
      rw [← hn, ← hbk]
      refine Sl.calm (Cm.move rfl) rfl ?_
      refine Sl.calm (Cm.extract rfl rfl) rfl ?_
      refine Sl.calm (Cm.extract rfl rfl) rfl ?_
      refine Sl.calm (Cm.assign rfl) rfl ?_
      refine Sl.calm (Cm.assign rfl) rfl ?_
      refine Sl.nil ?_
      refine At.weak [(0, _), (4, _), (5, _), (6, _), (7, _), (8, _), (9, _), (17, _)] ⟨rfl, rfl, rfl, rfl, rfl, rfl, rfl, rfl, trivial⟩ ?_
      refine At.go ?_
      refine Sc.seq ?_
      refine Sc.seq ?_
      refine Sc.region ?_
      refine Sl.calm (Cm.move rfl) rfl ?_
      refine Sl.fork (Cm.eql rfl rfl) rfl (fun h26 => ?_) (fun h26 => ?_)
      ·
        have hn0 : (mt b a).1 = 0 := by omega
        refine Sl.nil ?_
        refine At.weak [(0, _), (4, _), (5, _), (6, _), (7, _), (8, _), (9, _), (17, _), (26, _)] ⟨rfl, rfl, rfl, rfl, rfl, rfl, rfl, rfl, rfl, trivial⟩ ?_
        refine At.go ?_
        refine Sc.cond_t rfl ?_
        refine Sc.seq ?_
        refine Sc.region ?_
        refine Sl.calm (Cm.move rfl) rfl ?_
        refine Sl.calm (Cm.move rfl) rfl ?_
        refine Sl.calm (Cm.move rfl) rfl ?_
        refine Sl.calm (Cm.move rfl) rfl ?_
        refine Sl.calm (Cm.add64 rfl rfl (by omega)) rfl ?_
        rw [show ((a : Int) + 1) = ((a + 1 : Nat) : Int) by omega]
        refine Sl.call fn110 rfl (note_ok _ W.heap.size ao cap b 0 a (a + 1) _ hv1 (fun k hk h => by have := hltA k hk; have := h.1; omega) hc1 (fun k hk => ⟨Nat.le_trans hz1 hk, fun ⟨x, hx, e⟩ => by have := ho1.lt x hx; have h : w1.heap.size ≤ k := hk; omega⟩) (Nat.zero_le _) (by omega) (by omega) (by omega)) rfl ?_
        rintro _ w2 ⟨hc2, hf2⟩
        have hf2 := hf2.undraw
        refine Sl.nil ?_
        refine At.weak [(0, _), (4, _), (5, _), (6, _), (7, _), (8, _), (9, _), (17, _), (26, _)] ⟨rfl, rfl, rfl, rfl, rfl, rfl, rfl, rfl, rfl, trivial⟩ ?_
        refine At.go ?_
        refine Sc.seq ?_
        refine Sc.region ?_
        refine Sl.calm (Cm.move rfl) rfl ?_
        refine Sl.calm (Cm.add64 rfl rfl (by omega)) rfl ?_
        refine Sl.calm (Cm.assign rfl) rfl ?_
        refine Sl.nil ?_
        refine At.weak [(0, _), (4, _), (5, _), (6, _), (7, _), (8, _), (9, _), (17, _), (26, _)] ⟨rfl, rfl, rfl, rfl, rfl, rfl, rfl, rfl, rfl, trivial⟩ ?_
        refine At.go ?_
        refine Sc.exit ?_
        refine At.then_exit ?_
        refine At.block_hit ?_
        have hF2 : Foot nob W w2 := hF1.trans_to hf2 (fun k h => .inr h.1)
        exact At.again ⟨a + 1, f, out, o1, c1⟩ ⟨rfl, rfl, rfl, rfl, rfl, trivial⟩ ⟨by omega, by omega, by rw [← hpk, pk_one (by omega) hn0, part_snoc hf (by omega)], hc2, ho1.keep hf2 (fun x hx h => h.2 ⟨x, hx, rfl⟩), hfr1, hol, hF2⟩ (by show b.length - (a + 1) < b.length - a; omega)
      ·
        have hn1 : (mt b a).1 ≠ 0 := by omega
        obtain ⟨m1, m2, m3, m4, m5, m6, m7, m8, m9⟩ := mt_spec hn1
        rw [← hn] at m2 m3 m4 m8 m9
        rw [← hbk] at m5 m6 m7 m8 m9
        have hpl := part_len (b := b) (a := a) (f := f) ha
        refine Sl.nil ?_
        refine At.weak [(0, _), (4, _), (5, _), (6, _), (7, _), (8, _), (9, _), (17, _), (26, _)] ⟨rfl, rfl, rfl, rfl, rfl, rfl, rfl, rfl, rfl, trivial⟩ ?_
        refine At.go ?_
        refine Sc.cond_f rfl ?_
        refine Sc.skip ?_
        refine At.go ?_
        refine Sc.seq ?_
        refine Sc.region ?_
        refine Sl.calm (Cm.move rfl) rfl ?_
        refine Sl.calm (Cm.move rfl) rfl ?_
        refine Sl.calm (Cm.move rfl) rfl ?_
        refine Sl.calm (Cm.move rfl) rfl ?_
        refine Sl.calm (Cm.ofEq (u := .slice (cutAo ao cap f 1) ((b.take a).drop f).length (cap - f)) (Cm.sliceLH sl25 rfl rfl rfl (by omega) (by omega)) (by rw [hpl]; rfl)) rfl ?_
        refine Sl.call fn111 rfl (runs_ok o1 c1 out (cutAo ao cap f 1) (cap - f) ((b.take a).drop f) _ ho1 (part_vw hv1 hf ha) (fun _ k hk hk2 => by have := hltA k (blk_cut hk2); obtain ⟨x, hx, e⟩ := hk; have := hfr1 x hx; omega) (by rw [hpl]; omega)) rfl ?_
        rintro _ w3 ⟨o3, c3, rfl, ho3, hf3, hr3⟩
        have hf3 := hf3.undraw
        have hz3 := hf3.size
        have hrl := rn_len _ ((b.take a).drop f) out rfl
        rw [hpl] at hrl
        have hfr3 : Fr W.heap.size o3 := fr_next hfr1 hr3 hz1
        refine Sl.calm (Cm.move rfl) rfl ?_
        refine Sl.calm (Cm.add64 rfl rfl (by omega)) rfl ?_
        refine Sl.calm (Cm.convI_in (n := ((UInt8.ofNat (n + 125)).toNat : Int)) is3 ty5 rfl (out_wrap (by omega))) rfl ?_
        refine Sl.calm (Cm.move rfl) rfl ?_
        refine Sl.calm (Cm.sub64 rfl rfl (by omega)) rfl ?_
        refine Sl.calm (Cm.convI_in (n := ((UInt8.ofNat (bk - 1)).toNat : Int)) is3 ty5 rfl (out_wrap (by omega))) rfl ?_
        refine Sl.lit2 (enc := b8) (u := UInt8.ofNat (n + 125)) (u' := UInt8.ofNat (bk - 1)) sl25 b8_one rfl rfl rfl ?_
        intro w4 ho4 hs4 hf4
        have hz4 := hf4.size
        refine Sl.append b8_one sl25 rfl rfl (ho3.grow hf4) ho4.vw (by simp only [List.length_cons, List.length_nil]; omega) (by simp only [List.length_cons, List.length_nil]; unfold maxLen; omega) rfl ?_
        intro o5 c5 w5 ho5 hf5 hr5 hn5
        have hz5 := hf5.size
        have hfr5 : Fr W.heap.size o5 := fr_next hfr3 hr5 (by omega)
        have hto3 : ∀ k, blk o3 k → blk o1 k ∨ w1.heap.size ≤ k := fun k ⟨x, hx, hk⟩ => by rcases hr3 x hx with h | h; exact .inl ⟨x, h, hk⟩; exact .inr (by have h : w1.heap.size ≤ x.block := h; omega)
        have hto5 : ∀ k, blk o5 k → blk o1 k ∨ w1.heap.size ≤ k := fun k ⟨x, hx, hk⟩ => by rcases hr5 x hx with h | h; exact hto3 k ⟨x, h, hk⟩; exact .inr (by omega)
        have hF15 : Foot (blk o1) w1 w5 := (hf3.trans hf4.any).trans_to hf5 hto3
        have hF5 : Foot nob W w5 := hF1.trans_to hF15 hfr1.step
        have hc5 : ChM (fun k => W.heap.size ≤ k ∧ ¬ blk o5 k) w5.heap W.heap.size b 0 a := (hc1.low.keep hF15 (fun k hk => hk.1.2)).mono (fun k hk => ⟨hk.1.1, fun h => by rcases hto5 k h with h2 | h2; exact hk.1.2 h2; have := hk.2; omega⟩)
        refine Sl.calm (Cm.assign rfl) rfl ?_
        refine Sl.nil ?_
        refine At.weak [(0, _), (4, _), (5, _), (6, _), (7, _), (8, _), (9, _), (17, _), (26, _)] ⟨rfl, rfl, rfl, rfl, rfl, rfl, rfl, rfl, rfl, trivial⟩ ?_
        refine At.go ?_
        refine Sc.seq ?_
        refine Sc.region ?_
        refine Sl.calm (Cm.move rfl) rfl ?_
        refine Sl.calm (Cm.move rfl) rfl ?_
        refine Sl.calm (Cm.move rfl) rfl ?_
        refine Sl.calm (Cm.move rfl) rfl ?_
        refine Sl.calm (Cm.move rfl) rfl ?_
        refine Sl.calm (Cm.add64 rfl rfl (by omega)) rfl ?_
        rw [show ((a : Int) + n) = ((a + n : Nat) : Int) by omega]
        refine Sl.call fn110 rfl (note_ok _ W.heap.size ao cap b 0 a (a + n) w5 (hv.grow hF5) (fun k hk h => by have := hltA k hk; have := h.1; omega) hc5 (fun k hk => ⟨Nat.le_trans hF5.size hk, fun ⟨x, hx, e⟩ => by have := ho5.lt x hx; omega⟩) (Nat.zero_le _) (by omega) (by omega) (by omega)) rfl ?_
        rintro _ w6 ⟨hc6, hf6⟩
        refine Sl.nil ?_
        refine At.weak [(0, _), (4, _), (5, _), (6, _), (7, _), (8, _), (9, _), (17, _), (26, _)] ⟨rfl, rfl, rfl, rfl, rfl, rfl, rfl, rfl, rfl, trivial⟩ ?_
        refine At.go ?_
        refine Sc.seq ?_
        refine Sc.region ?_
        refine Sl.calm (Cm.move rfl) rfl ?_
        refine Sl.calm (Cm.move rfl) rfl ?_
        refine Sl.calm (Cm.add64 rfl rfl (by omega)) rfl ?_
        refine Sl.calm (Cm.assign rfl) rfl ?_
        refine Sl.nil ?_
        refine At.weak [(0, _), (4, _), (5, _), (6, _), (7, _), (8, _), (9, _), (17, _), (26, _)] ⟨rfl, rfl, rfl, rfl, rfl, rfl, rfl, rfl, rfl, trivial⟩ ?_
        refine At.go ?_
        refine Sc.region ?_
        refine Sl.calm (Cm.move rfl) rfl ?_
        refine Sl.calm (Cm.assign rfl) rfl ?_
        refine Sl.nil ?_
        refine At.block_normal ?_
        have hF6 : Foot nob W w6 := hF5.trans_to hf6 (fun k h => .inr h.1)
        refine At.again ⟨a + n, a + n, rn out ((b.take a).drop f) ++ [UInt8.ofNat (n + 125), UInt8.ofNat (bk - 1)], o5, c5⟩ ⟨rfl, rfl, rfl, rfl, rfl, trivial⟩ ⟨Nat.le_refl _, by omega, ?_, hc6, ho5.keep hf6 (fun x hx h => h.2 ⟨x, hx, rfl⟩), hfr5, by rw [List.length_append, hrl]; simp only [List.length_cons, List.length_nil]; omega, hF6⟩ (by show b.length - (a + n) < b.length - a; omega)
        rw [← hpk, pk_copy hn1, ← hn, ← hbk, List.drop_of_length_le (by rw [List.length_take]; omega)]
    ·
      refine Sl.nil ?_
      refine At.weak [(0, _), (4, _), (5, _), (6, _), (7, _), (17, _)] ⟨rfl, rfl, rfl, rfl, rfl, rfl, trivial⟩ ?_
      refine At.go ?_
      refine Sc.cond_f rfl ?_
      refine Sc.exit ?_
      refine At.then_exit ?_
      refine At.then_exit ?_
      refine At.block_hit ?_
      refine At.go ?_
      refine Sc.seq ?_
      refine Sc.region ?_
      refine Sl.calm (Cm.move rfl) rfl ?_
      refine Sl.calm (Cm.move rfl) rfl ?_
      refine Sl.calm (Cm.move rfl) rfl ?_
      have haf : a = b.length := by omega
      rw [haf, List.take_length, pk_end (Nat.lt_irrefl _)] at hpk
      refine Sl.calm (Cm.ofEq (u := .slice (cutAo ao cap f 1) (b.drop f).length (cap - f)) (Cm.sliceL sl25 rfl rfl (by omega)) (by rw [List.length_drop]; rfl)) rfl ?_
      have hvd := part_vw hv1 (show f ≤ b.length by omega) (Nat.le_refl _)
      rw [List.take_length] at hvd
      refine Sl.call fn111 rfl (runs_ok o1 c1 out (cutAo ao cap f 1) (cap - f) (b.drop f) _ ho1 hvd (fun h k hk hk2 => by have hltA := vw_lt hv (show 0 < b.length by rw [List.length_drop] at h; omega); have := hltA k (blk_cut hk2); obtain ⟨x, hx, e⟩ := hk; have := hfr1 x hx; omega) (by rw [List.length_drop]; omega)) rfl ?_
      rintro _ w3 ⟨o3, c3, rfl, ho3, hf3, hr3⟩
      refine Sl.calm (Cm.assign rfl) rfl ?_
      refine Sl.calm (Cm.assign rfl) rfl ?_
      refine Sl.nil ?_
      refine At.weak [(0, _), (2, _), (3, _), (4, _), (5, _), (6, _), (7, _), (17, _)] ⟨rfl, rfl, rfl, rfl, rfl, rfl, rfl, rfl, trivial⟩ ?_
      refine At.go ?_
      refine Sc.ret ?_
      refine At.ret2 rfl rfl rfl ?_
      first
        | (rw [e]; exact ⟨_, rfl, none, 0, rfl, Own.nil, Fr.none, Foot.refl _ _⟩)
        | (rw [e, ← hpk]; exact ⟨_, rfl, o3, c3, rfl, ho3, fr_next hfr1 hr3 hz1, hF1.trans_to hf3 hfr1.step⟩)
end Go.Proofs.Ytoaplldahbbaiaa
/- lz: Pack, the reference's; the laws' head. No condition beyond the bounds that each states. -/
namespace Go.Proofs.Ytoaplldahbbaiaa
open Go Go.RowKit
set_option linter.unusedVariables false

def exB : List UInt8 := [97, 98, 99, 97, 98, 99, 97, 98, 99, 100]
def exP : List UInt8 := [2, 97, 98, 99, 131, 2, 0, 100]
theorem rn_short {out l : List UInt8} (h0 : 0 < l.length) (h : l.length ≤ 128) : rn out l = out ++ UInt8.ofNat (l.length - 1) :: l := by
  rw [rn_step h0, show min l.length 128 = l.length by omega, List.take_of_length_le (Nat.le_refl _), List.drop_of_length_le (Nat.le_refl _), rn_nil]
theorem ex_pack : pkS exB = exP := by
  have m3 : mt exB 3 = (6, 3) := by decide +kernel
  unfold pkS
  rw [pk_one (by decide) (by decide +kernel), pk_one (by decide) (by decide +kernel), pk_one (by decide) (by decide +kernel), pk_copy (by rw [show 0 + 1 + 1 + 1 = 3 from rfl, m3]; decide),
    show 0 + 1 + 1 + 1 = 3 from rfl, m3, pk_one (by decide) (by decide +kernel), pk_end (by decide), rn_short (by decide) (by decide), rn_short (by decide) (by decide)]
  rfl
theorem ex_pkR : pkR exB = (exP, 0) := by unfold pkR; rw [if_neg (by decide), ex_pack]
theorem ex_up : upS exP 10 = (exB, 0) := by have := unpack_pack exB; rwa [ex_pack] at this
theorem ex_less : upS exP 9 = ([], 3) := by have := unpack_less exB; rwa [ex_pack] at this
theorem ex_none : upS [128, 0] 9 = ([], 2) := by
  unfold upS
  rw [if_neg (by decide), up_copy (by decide), if_pos (by decide)]

end Go.Proofs.Ytoaplldahbbaiaa
