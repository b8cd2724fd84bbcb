/- data: what was laid down is read as it was, in plain Lean. No condition beyond the bounds that each states. -/
import Derived.Test.YtpnfjfbfgaiolaaDoorDaIk
import Derived.Test.YtpnfjfbfgaiolaaDoorDaQk
namespace Go.Proofs.YtpnfjfbfgaiolaaDoor
open Go Go.RowKit
set_option linter.unusedVariables false

def imD (f : Nat) (s : DS) : List UInt8 := List.replicate f 0 ++ s.B
def GoodR (f : Nat) (s : DS) : Prop := ∀ a v, findR s.m a = some v → ∃ pre rest, imD f s = pre ++ (a.1 ++ rest) ∧ pre.length = v
theorem GoodR.zero (f : Nat) : GoodR f ⟨[], []⟩ := fun a v h => by cases h
theorem GoodR.add {f : Nat} {s : DS} (h : GoodR f s) (b : List UInt8) (hb : (runD b).length ≤ maxLen) : GoodR f (addD f s b).1 := by
  unfold addD addR
  split
  · exact h
  · split
    · exact h
    · rename_i hn
      intro a v hv
      have hv : findR (s.m ++ [(skOf (runD b), f + s.B.length)]) a = some v := hv
      have e : imD f ⟨s.B ++ runD b, s.m ++ [(skOf (runD b), f + s.B.length)]⟩ = imD f s ++ runD b := by simp [imD]
      show ∃ pre rest, imD f ⟨s.B ++ runD b, s.m ++ [(skOf (runD b), f + s.B.length)]⟩ = pre ++ (a.1 ++ rest) ∧ pre.length = v
      rw [e]
      rw [findR_snoc] at hv
      cases ha : findR s.m a with
      | some k =>
        rw [ha] at hv
        have hkv : k = v := by simpa using hv
        subst hkv
        obtain ⟨pre, rest, h1, h2⟩ := h a k ha
        exact ⟨pre, rest ++ runD b, by rw [h1]; simp, h2⟩
      | none =>
        rw [ha] at hv
        by_cases hk : skOf (runD b) = a
        · have hv : f + s.B.length = v := by simpa [hk] using hv
          refine ⟨imD f s, [], ?_, by rw [← hv]; simp [imD]⟩
          rw [← hk, skOf_eq hb, List.append_nil]
        · simp [hk] at hv
theorem GoodR.fold {f : Nat} : ∀ (L : List (List UInt8)) (s : DS), (∀ b ∈ L, (runD b).length ≤ maxLen) → GoodR f s → GoodR f (L.foldl (fun s b => (addD f s b).1) s)
  | [], _, _, h => h
  | b :: r, s, hb, h => GoodR.fold r _ (fun c hc => hb c (by simp [hc])) (h.add b (hb b (by simp)))
theorem good_dsT {f : Nat} {L : List (List UInt8)} (h : ∀ b ∈ L, b.length ≤ 1500) : GoodR f (dsT f L) :=
  GoodR.fold L _ (fun b hb => by have := runD_le b; have := h b hb; unfold maxLen; omega) (GoodR.zero f)
theorem runN_more (b : List UInt8) (i : Nat) : ∀ j, ∃ r, runN b (i + j) = runN b i ++ r
  | 0 => ⟨[], by simp⟩
  | j + 1 => by
    obtain ⟨r, hr⟩ := runN_more b i j
    exact ⟨r ++ frB (chB b (i + j)), by rw [show i + (j + 1) = (i + j) + 1 by omega, runN_succ, hr, List.append_assoc]⟩
theorem runN_split {b : List UInt8} {i n : Nat} (h : i < n) : ∃ r, runN b n = runN b i ++ (frB (chB b i) ++ r) := by
  obtain ⟨r, hr⟩ := runN_more b (i + 1) (n - (i + 1))
  rw [show i + 1 + (n - (i + 1)) = n by omega, runN_succ] at hr
  exact ⟨r, by rw [hr, List.append_assoc]⟩
theorem hX_back {x : List UInt8} (h : x.length = 128) : ¬ ((hX x).length ≠ 0 ∧ (hX x).length ≠ 128) ∧ blkD (hX x) = x := by
  unfold hX
  split
  · rename_i hh
    refine ⟨by simp, ?_⟩
    show List.replicate 128 0 = x
    symm
    rw [List.eq_replicate_iff]
    refine ⟨h, fun c hc => ?_⟩
    obtain ⟨i, hi, rfl⟩ := List.getElem_of_mem hc
    have := hh i hi
    simpa [List.getD, hi] using this
  · exact ⟨by omega, by unfold blkD; rw [if_neg (by omega)]⟩
section
variable {im pre rest b : List UInt8} (him : im = pre ++ (runD b ++ rest))
include him
theorem take_at {i : Nat} (h : i < b.length / 128) : takeS im (pre.length + (runN b i).length : Nat) = (hX (chB b i), ((pre.length + (runN b (i + 1)).length : Nat) : Int), 0) ∧ skipS im (pre.length + (runN b i).length : Nat) = (((pre.length + (runN b (i + 1)).length : Nat) : Int), 0) := by
  obtain ⟨r, hr⟩ := runN_split (b := b) h
  have e : im = (pre ++ runN b i) ++ ((putS (hX (chB b i))).1 ++ (r ++ rest)) := by
    rw [him, show runD b = runN b (b.length / 128) from rfl, hr]
    show _ = (pre ++ runN b i) ++ (frB (chB b i) ++ (r ++ rest))
    simp
  have hl : (hX (chB b i)).length ≤ 128 := Nat.le_trans (hX_len _) (chB_len _ _)
  have h1 := takeS_put hl (pre ++ runN b i) (r ++ rest)
  rw [← e, List.length_append] at h1
  have hs : (runN b (i + 1)).length = (runN b i).length + (putS (hX (chB b i))).1.length := by rw [runN_succ, List.length_append]; rfl
  refine ⟨?_, ?_⟩
  · rw [h1.1]
    refine Prod.ext rfl (Prod.ext ?_ rfl)
    show ((pre.length + (runN b i).length : Nat) : Int) + _ = ((pre.length + (runN b (i + 1)).length : Nat) : Int)
    omega
  · rw [h1.2]
    refine Prod.ext ?_ rfl
    show ((pre.length + (runN b i).length : Nat) : Int) + _ = ((pre.length + (runN b (i + 1)).length : Nat) : Int)
    omega
theorem end_at : pre.length + (runD b).length ≤ im.length := by rw [him]; simp
end
def selB (b : List UInt8) (off n i : Nat) : List UInt8 := ((b.take (i * 128)).drop off).take n
theorem selB_len {b : List UInt8} {off n i : Nat} (h : i * 128 ≤ b.length) : (selB b off n i).length = min n (i * 128 - off) := by unfold selB; simp only [List.length_take, List.length_drop]; omega
theorem selB_succ {b : List UInt8} {off n i : Nat} (h : (i + 1) * 128 ≤ b.length) (hn : (selB b off n i).length < n) :
    selB b off n (i + 1) = selB b off n i ++ ((chB b i).drop (off - i * 128)).take (n - (selB b off n i).length) := by
  have hl := selB_len (b := b) (off := off) (n := n) (i := i) (by omega)
  have e : b.take ((i + 1) * 128) = b.take (i * 128) ++ chB b i := by
    unfold chB
    rw [show (i + 1) * 128 = i * 128 + 128 by omega, List.take_add]
  have hX : ((b.take (i * 128)).drop off).length = i * 128 - off := by rw [List.length_drop, List.length_take]; omega
  unfold selB at *
  rw [e, List.drop_append, List.take_append, List.length_take, Nat.min_eq_left (by omega : i * 128 ≤ b.length)]
  congr 1
  rw [hX, hl]
  congr 1
  omega
theorem selB_stop {b : List UInt8} {off n i N : Nat} (h : i ≤ N) (hN : N * 128 ≤ b.length) (hn : n ≤ (selB b off n i).length) : selB b off n N = selB b off n i := by
  have hl := selB_len (b := b) (off := off) (n := n) (i := i) (by have : i * 128 ≤ N * 128 := Nat.mul_le_mul_right _ h; omega)
  have hX : ((b.take (i * 128)).drop off).length = i * 128 - off := by
    rw [List.length_drop, List.length_take]
    have : i * 128 ≤ N * 128 := Nat.mul_le_mul_right _ h
    omega
  have hle : i * 128 ≤ N * 128 := Nat.mul_le_mul_right _ h
  unfold selB at *
  have e : b.take (N * 128) = b.take (i * 128) ++ (b.drop (i * 128)).take (N * 128 - i * 128) := by
    rw [← List.take_add]; congr 1; omega
  rw [e, List.drop_append, List.take_append, hX]
  rw [show n - (i * 128 - off) = 0 by omega, List.take_zero, List.append_nil]
theorem read_go {im pre rest b : List UInt8} (him : im = pre ++ (runD b ++ rest)) (off n : Nat) : ∀ k i, k = b.length / 128 - i → i ≤ b.length / 128 →
    rdGo im off n k i (pre.length + (runN b i).length : Nat) (selB b off n i) = (selB b off n (b.length / 128), 0)
  | 0, i, hk, hi => by
    rw [show i = b.length / 128 by omega]; rfl
  | k + 1, i, hk, hi => by
    have hN : b.length / 128 * 128 ≤ b.length := Nat.div_mul_le_self _ _
    have hi2 : (i + 1) * 128 ≤ b.length := Nat.le_trans (Nat.mul_le_mul_right 128 (show i + 1 ≤ b.length / 128 by omega)) hN
    by_cases hn : n ≤ (selB b off n i).length
    · rw [rdGo_end hn, selB_stop hi hN hn]
    · obtain ⟨h1, h2⟩ := take_at him (i := i) (by omega)
      have hl := selB_len (b := b) (off := off) (n := n) (i := i) (by omega)
      by_cases hs : i * 128 + 128 ≤ off
      · rw [rdGo_skip (by omega) hs (by rw [h2]; exact fun h => h rfl), h2]
        have e : selB b off n i = selB b off n (i + 1) := by
          have h3 := selB_len (b := b) (off := off) (n := n) (i := i + 1) hi2
          rw [List.length_eq_zero_iff.1 (by omega : (selB b off n i).length = 0), List.length_eq_zero_iff.1 (by omega : (selB b off n (i + 1)).length = 0)]
        rw [e]
        exact read_go him off n k (i + 1) (by omega) (by omega)
      · obtain ⟨g1, g2⟩ := hX_back (chB_len2 (b := b) (i := i) (by omega))
        rw [rdGo_take (by omega) hs (by rw [h1]; rintro (h | h); exact h rfl; exact g1 h), h1, g2, ← selB_succ hi2 (by omega)]
        exact read_go him off n k (i + 1) (by omega) (by omega)
/-- what was laid down is read as it was -/
theorem read_back {im pre rest b : List UInt8} (him : im = pre ++ (runD b ++ rest)) (hb : b.length ≤ 4096) (off n : Nat) : readD im (pre.length : Nat) (b.length : Nat) (off : Nat) (n : Nat) = (((b.take (b.length / 128 * 128)).drop off).take n, 0) := by
  by_cases h : b.length / 128 * 128 ≤ off
  · rw [readD_nil hb h, List.drop_eq_nil_of_le (by rw [List.length_take]; omega)]; simp
  · rw [readD_go hb h]
    have := read_go him off n (b.length / 128) 0 rfl (Nat.zero_le _)
    have e0 : selB b off n 0 = [] := by simp [selB]
    rw [e0] at this
    exact this
theorem read_none {im b : List UInt8} {start : Int} (hb : b.length / 128 = 0) (off n : Nat) : readD im start (b.length : Nat) (off : Nat) (n : Nat) = (((b.take (b.length / 128 * 128)).drop off).take n, 0) := by
  rw [readD_nil (by omega) (by omega), hb]; simp
theorem walk_go {im pre rest b : List UInt8} (him : im = pre ++ (runD b ++ rest)) : ∀ k i, k = b.length / 128 - i → i ≤ b.length / 128 →
    wkGo im (im.length : Nat) k (pre.length + (runN b i).length : Nat) = (((pre.length + (runD b).length : Nat) : Int), 0)
  | 0, i, hk, hi => by
    rw [show i = b.length / 128 by omega]; rfl
  | k + 1, i, hk, hi => by
    obtain ⟨h1, h2⟩ := take_at him (i := i) (by omega)
    have h3 := end_at him
    obtain ⟨r, hr⟩ := runN_more b (i + 1) (b.length / 128 - (i + 1))
    rw [show i + 1 + (b.length / 128 - (i + 1)) = b.length / 128 by omega] at hr
    have h4 : (runN b (i + 1)).length ≤ (runD b).length := by show _ ≤ (runN b (b.length / 128)).length; rw [hr, List.length_append]; omega
    rw [wkGo_on (by rw [h2]; rintro (h | h); exact h rfl; have h : ((im.length : Nat) : Int) < ((pre.length + (runN b (i + 1)).length : Nat) : Int) := h; omega), h2]
    exact walk_go him k (i + 1) (by omega) (by omega)
theorem walk_back {im pre rest b : List UInt8} (him : im = pre ++ (runD b ++ rest)) (hb : b.length ≤ 4096) : walkD im (pre.length : Nat) (b.length : Nat) (im.length : Nat) = (((pre.length + (runD b).length : Nat) : Int), 0) := by
  rw [walkD_go hb]
  exact walk_go him (b.length / 128) 0 rfl (Nat.zero_le _)
theorem walk_none {im b : List UInt8} {start e : Int} (hb : b.length / 128 = 0) : walkD im start (b.length : Nat) e = (start, 0) := by
  rw [walkD_go (by omega), hb]; rfl
end Go.Proofs.YtpnfjfbfgaiolaaDoor
