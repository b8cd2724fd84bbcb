/- slices.SortStableFunc over numbers: places that are changed with one another; swapRange, rotate. No condition beyond the bounds that each states. -/
import Derived.Test.YtpnfjfbfgaiolaaKH
import Derived.Test.YtpnfjfbfgaiolaaMuk
namespace Go.Proofs.Ytpnfjfbfgaiolaa
open Go Go.RowKit
set_option linter.unusedVariables false

theorem gd_set {xs : List Int} {i k : Nat} {u : Int} (hi : i < xs.length) : (xs.set i u).getD k 0 = if k = i then u else xs.getD k 0 := by
  by_cases h : k = i
  · subst h; rw [if_pos rfl, List.getD, List.getElem?_set_self hi]; rfl
  · rw [if_neg h, List.getD, List.getElem?_set_ne (fun e => h e.symm)]; rfl
/-- two places changed -/
def wx (i j k : Nat) : Nat := if k = j then i else if k = i then j else k
def swapL (xs : List Int) (i j : Nat) : List Int := (xs.set i (xs.getD j 0)).set j (xs.getD i 0)
theorem swap_len (xs : List Int) (i j : Nat) : (swapL xs i j).length = xs.length := by simp [swapL]
theorem gd_swap {xs : List Int} {i j k : Nat} (hi : i < xs.length) (hj : j < xs.length) : (swapL xs i j).getD k 0 = xs.getD (wx i j k) 0 := by
  unfold swapL wx
  rw [gd_set (by simpa using hj), gd_set hi]
  by_cases h1 : k = j
  · rw [if_pos h1, if_pos h1]
  · rw [if_neg h1, if_neg h1]
    by_cases h2 : k = i
    · rw [if_pos h2, if_pos h2]
    · rw [if_neg h2, if_neg h2]
theorem swap_perm {xs : List Int} {i j : Nat} (hi : i < xs.length) (hj : j < xs.length) : (swapL xs i j).Perm xs := by
  have h := Array.swap_perm (xs := xs.toArray) (i := i) (j := j) (by simpa using hi) (by simpa using hj)
  have e1 : xs.getD j 0 = xs[j] := by simp [List.getD, hj]
  have e2 : xs.getD i 0 = xs[i] := by simp [List.getD, hi]
  have e : (xs.toArray.swap i j (by simpa using hi) (by simpa using hj)).toList = swapL xs i j := by
    unfold swapL; rw [e1, e2]; simp [Array.swap]
  have h2 := Array.perm_iff_toList_perm.1 h
  rw [e] at h2; exact h2
theorem gd_ext {xs ys : List Int} (hl : xs.length = ys.length) (h : ∀ k, xs.getD k 0 = ys.getD k 0) : xs = ys := by
  apply List.ext_getElem hl
  intro i h1 h2
  have := h i
  simpa [List.getD, h1, h2] using this

/-- two rows of places, changed with one another -/
def sx (a b n k : Nat) : Nat := if a ≤ k ∧ k < a + n then k - a + b else if b ≤ k ∧ k < b + n then k - b + a else k
theorem sx_spec (a b n k : Nat) : (a ≤ k ∧ k < a + n ∧ sx a b n k = k - a + b) ∨ (¬ (a ≤ k ∧ k < a + n) ∧ b ≤ k ∧ k < b + n ∧ sx a b n k = k - b + a) ∨ (¬ (a ≤ k ∧ k < a + n) ∧ ¬ (b ≤ k ∧ k < b + n) ∧ sx a b n k = k) := by
  unfold sx
  by_cases h1 : a ≤ k ∧ k < a + n
  · rw [if_pos h1]; exact .inl ⟨h1.1, h1.2, rfl⟩
  · rw [if_neg h1]
    by_cases h2 : b ≤ k ∧ k < b + n
    · rw [if_pos h2]; exact .inr (.inl ⟨h1, h2.1, h2.2, rfl⟩)
    · rw [if_neg h2]; exact .inr (.inr ⟨h1, h2, rfl⟩)
theorem sx_zero (a b k : Nat) : sx a b 0 k = k := by have := sx_spec a b 0 k; omega
theorem wx_spec (i j k : Nat) : (k = j ∧ wx i j k = i) ∨ (k ≠ j ∧ k = i ∧ wx i j k = j) ∨ (k ≠ j ∧ k ≠ i ∧ wx i j k = k) := by
  unfold wx
  by_cases h1 : k = j
  · rw [if_pos h1]; exact .inl ⟨h1, rfl⟩
  · rw [if_neg h1]
    by_cases h2 : k = i
    · rw [if_pos h2]; exact .inr (.inl ⟨h1, h2, rfl⟩)
    · rw [if_neg h2]; exact .inr (.inr ⟨h1, h2, rfl⟩)
theorem sx_succ {a b i k : Nat} (h : a + i < b) : sx a b i (wx (a + i) (b + i) k) = sx a b (i + 1) k := by
  have h1 := wx_spec (a + i) (b + i) k
  have h2 := sx_spec a b i (wx (a + i) (b + i) k)
  have h3 := sx_spec a b (i + 1) k
  omega
/-- two rows of places, one beside the other, turned about -/
def rx (a m b k : Nat) : Nat := if a ≤ k ∧ k < a + (b - m) then k - a + m else if a + (b - m) ≤ k ∧ k < b then k - (b - m) else k
theorem rx_spec (a m b k : Nat) : (a ≤ k ∧ k < a + (b - m) ∧ rx a m b k = k - a + m) ∨ (¬ (a ≤ k ∧ k < a + (b - m)) ∧ a + (b - m) ≤ k ∧ k < b ∧ rx a m b k = k - (b - m)) ∨ (¬ (a ≤ k ∧ k < a + (b - m)) ∧ ¬ (a + (b - m) ≤ k ∧ k < b) ∧ rx a m b k = k) := by
  unfold rx
  by_cases h1 : a ≤ k ∧ k < a + (b - m)
  · rw [if_pos h1]; exact .inl ⟨h1.1, h1.2, rfl⟩
  · rw [if_neg h1]
    by_cases h2 : a + (b - m) ≤ k ∧ k < b
    · rw [if_pos h2]; exact .inr (.inl ⟨h1, h2.1, h2.2, rfl⟩)
    · rw [if_neg h2]; exact .inr (.inr ⟨h1, h2, rfl⟩)
theorem rx_gt {m i j k : Nat} (h : j < i) (hj : 0 < j) (him : i ≤ m) : sx (m - i) m j (rx (m - (i - j)) m (m + j) k) = rx (m - i) m (m + j) k := by
  have h1 := rx_spec (m - (i - j)) m (m + j) k
  have h2 := sx_spec (m - i) m j (rx (m - (i - j)) m (m + j) k)
  have h3 := rx_spec (m - i) m (m + j) k
  omega
theorem rx_lt {m i j k : Nat} (h : i < j) (hi : 0 < i) (him : i ≤ m) : sx (m - i) (m + (j - i)) i (rx (m - i) m (m + (j - i)) k) = rx (m - i) m (m + j) k := by
  have h1 := rx_spec (m - i) m (m + (j - i)) k
  have h2 := sx_spec (m - i) (m + (j - i)) i (rx (m - i) m (m + (j - i)) k)
  have h3 := rx_spec (m - i) m (m + j) k
  omega
theorem rx_eq {m i k : Nat} (him : i ≤ m) : sx (m - i) m i k = rx (m - i) m (m + i) k := by
  have h2 := sx_spec (m - i) m i k
  have h3 := rx_spec (m - i) m (m + i) k
  omega
end Go.Proofs.Ytpnfjfbfgaiolaa
/- slices.SortStableFunc over numbers: swapRange, rotate. No condition beyond the bounds that each states. -/
namespace Go.Proofs.Ytpnfjfbfgaiolaa
open Go Go.RowKit
set_option linter.unusedVariables false

theorem i64_oneS (x : Int) : (i64 x).oneCell' = true := rfl
/-- a row of numbers that is put in order -/
def StI (W0 : World) (o : Option Addr) (c n : Nat) (xs : List Int) (w : World) : Prop := Own i64 3 w.heap o c xs ∧ xs.length = n ∧ Foot (blk o) W0 w
theorem StI.draws {W0 : World} {o : Option Addr} {c n : Nat} {xs : List Int} {w : World} (h : StI W0 o c n xs w) (k : Nat) : StI W0 o c n xs (w.drewN k) := ⟨h.1, h.2.1, h.2.2.draws k⟩
theorem StI.grow {W0 : World} {o : Option Addr} {c n : Nat} {xs : List Int} {w w' : World} (h : StI W0 o c n xs w) (f : Foot nob w w') : StI W0 o c n xs w' := ⟨h.1.grow f, h.2.1, h.2.2.trans (f.mono (fun _ h => h.elim))⟩
set_option maxHeartbeats 1000000 in
theorem swapR_ok (W0 : World) (o : Option Addr) (c n a b m : Nat) (fv : Value) (xs : List Int) (W : World) (h : StI W0 o c n xs W) (hab : a + m ≤ b) (hbm : b + m ≤ n) (hn : n ≤ 1000000) :
    Calls Try.prog 98 [.slice o n c, .int .i64 a, .int .i64 b, .int .i64 m, fv].toArray W (Ret fun v w' => v = .tuple #[] ∧ ∃ ys, StI W0 o c n ys w' ∧ ys.Perm xs ∧ ∀ k, ys.getD k 0 = xs.getD (sx a b m k) 0) := by
  refine calls_of_sc 38 [(0, _), (1, _), (2, _), (3, _), (4, _)] Try.func98 rfl rfl rfl (enter_slots ⟨rfl, rfl, rfl, rfl, rfl, trivial⟩) ?_
  refine Sc.seq ?_
  refine Sc.region ?_
  refine Sl.calm (Cm.assign rfl) rfl ?_
  refine Sl.nil ?_
  refine At.go ?_
  refine Sc.block ?_
  refine Sc.loop (β := Nat × List Int) (fun ⟨i, ys⟩ => [(0, .slice o n c), (1, .int .i64 a), (2, .int .i64 b), (3, .int .i64 m), (10, .int .i64 i)]) (fun ⟨i, ys⟩ w => i ≤ m ∧ StI W0 o c n ys w ∧ ys.Perm xs ∧ ∀ k, ys.getD k 0 = xs.getD (sx a b i k) 0) (fun ⟨i, ys⟩ => m - i) ⟨0, xs⟩ ⟨rfl, rfl, rfl, rfl, rfl, trivial⟩ ⟨Nat.zero_le _, h, List.Perm.refl _, fun k => by rw [sx_zero]⟩ ?_
  rintro ⟨i, ys⟩ w2 ⟨hi, hy, hp, hk⟩
  refine Sc.seq ?_
  refine Sc.seq ?_
  refine Sc.region ?_
  refine Sl.calm (Cm.move rfl) rfl ?_
  refine Sl.calm (Cm.move rfl) rfl ?_
  refine Sl.fork (Cm.lss rfl rfl) rfl (fun h13 => ?_) (fun h13 => ?_)
  ·
    have him : i < m := by omega
    refine Sl.nil ?_
    refine At.weak [(0, _), (1, _), (2, _), (3, _), (10, _), (13, _)] ⟨rfl, rfl, rfl, rfl, rfl, rfl, trivial⟩ ?_
    refine At.go ?_
    refine Sc.cond_t rfl ?_
    refine Sc.skip ?_
    refine At.go ?_
    refine Sc.seq ?_
    refine Sc.block ?_
    have hyl := hy.2.1
    refine Sc.drawZ 21 [13, 19] (fun H => Vw i64 H o c ys) [21, 23] [0, 1, 2, 3, 4, 5, 6, 7, 8, 9, 10, 11, 12, 13, 14, 15, 16, 17, 18, 19, 20] (.alt 21 [22] (.alt 23 [] .fin .stop) .stop) mixed (by kernel_rfl) (hy.1.vw) ?_
    refine Sz.calm rfl rfl (Cm.move rfl) rfl ?_
    refine Sz.calm rfl rfl (Cm.move rfl) rfl ?_
    refine Sz.calm rfl rfl (Cm.move rfl) rfl ?_
    refine Sz.calm rfl rfl (Cm.add64 rfl rfl (by omega)) rfl ?_
    refine Sz.calm rfl rfl (Cm.move rfl) rfl ?_
    refine Sz.calm rfl rfl (Cm.move rfl) rfl ?_
    refine Sz.calm rfl rfl (Cm.move rfl) rfl ?_
    refine Sz.calm rfl rfl (Cm.add64 rfl rfl (by omega)) rfl ?_
    refine Sz.calm rfl rfl (Cm.move rfl) rfl ?_
    refine Sz.calm rfl rfl (Cm.move rfl) rfl ?_
    refine Sz.calm rfl rfl (Cm.move rfl) rfl ?_
    refine Sz.calm rfl rfl (Cm.add64 rfl rfl (by omega)) rfl ?_
    refine Sz.calm rfl rfl (Cm.indexAddr1 sl37 rfl rfl (by rw [← hy.2.1]; exact hy.1.vw.non) (by omega)) rfl ?_
    refine Sz.calm rfl rfl (Cm.load sca3 rfl (fun H (hH : Vw i64 H o c ys) => hH.gz 0 (b + i) (by omega) (by omega))) rfl ?_
    refine Sz.calm rfl rfl (Cm.move rfl) rfl ?_
    refine Sz.calm rfl rfl (Cm.move rfl) rfl ?_
    refine Sz.calm rfl rfl (Cm.move rfl) rfl ?_
    refine Sz.calm rfl rfl (Cm.add64 rfl rfl (by omega)) rfl ?_
    refine Sz.calm rfl rfl (Cm.indexAddr1 sl37 rfl rfl (by rw [← hy.2.1]; exact hy.1.vw.non) (by omega)) rfl ?_
    refine Sz.calm rfl rfl (Cm.load sca3 rfl (fun H (hH : Vw i64 H o c ys) => hH.gz 0 (a + i) (by omega) (by omega))) rfl ?_
    refine Sz.calm rfl rfl (Cm.indexAddr1 sl37 rfl rfl (by rw [← hy.2.1]; exact hy.1.vw.non) (by omega)) rfl ?_
    refine Sz.alt ?_ ?_
    ·
      refine Sz.eff rfl rfl (Sl.storeRow i64_oneS sca3 (z := (a : Int) + i) (u := ys.getD (b + i) 0) rfl rfl (hy.draws 1).1 (by omega) ?_)
      intro w3 ho3 hs3 hf3
      refine Sz.off rfl ?_
      refine Sz.calm rfl rfl (Cm.indexAddr1 sl37 rfl rfl (by rw [← hy.2.1]; exact hy.1.vw.non) (by omega)) rfl ?_
      refine Sz.alt ?_ ?_
      ·
        refine Sz.eff rfl rfl (Sl.storeRow i64_oneS sca3 (z := (b : Int) + i) (u := ys.getD (a + i) 0) rfl rfl ho3 (by rw [List.length_set]; omega) ?_)
        intro w4 ho4 hs4 hf4
        have e1 : ((a : Int) + i).toNat = a + i := by omega
        have e2 : ((b : Int) + i).toNat = b + i := by omega
        rw [e1, e2] at ho4
        refine Sz.off rfl ?_
        refine Sz.nil ?_
        refine At.block_normal ?_
        refine At.weak [(0, _), (1, _), (2, _), (3, _), (10, _), (13, _)] ⟨rfl, rfl, rfl, rfl, rfl, rfl, trivial⟩ ?_
        refine At.go ?_
        refine Sc.region ?_
        refine Sl.calm (Cm.move rfl) rfl ?_
        refine Sl.calm (Cm.add64 rfl rfl (by omega)) rfl ?_
        refine Sl.calm (Cm.assign rfl) rfl ?_
        refine Sl.nil ?_
        refine At.again ⟨i + 1, swapL ys (a + i) (b + i)⟩ ⟨rfl, rfl, rfl, rfl, rfl, trivial⟩ ⟨by omega, ⟨ho4, by rw [swap_len]; exact hyl, ((hy.2.2.draws 1).trans hf3).trans hf4⟩, (swap_perm (by omega) (by omega)).trans hp, fun k => ?_⟩ (by show m - (i + 1) < m - i; omega)
        rw [gd_swap (by omega) (by omega), hk, sx_succ (by omega)]
      exact Sz.stop
    exact Sz.stop
  ·
    have hie : i = m := by omega
    subst hie
    refine Sl.nil ?_
    refine At.weak [(0, _), (1, _), (2, _), (3, _), (10, _), (13, _)] ⟨rfl, rfl, rfl, rfl, rfl, rfl, trivial⟩ ?_
    refine At.go ?_
    refine Sc.cond_f rfl ?_
    refine Sc.exit ?_
    refine At.then_exit ?_
    refine At.then_exit ?_
    refine At.block_hit ?_
    refine At.end0 rfl ?_
    exact ⟨_, rfl, rfl, ys, hy, hp, hk⟩
set_option maxHeartbeats 1000000 in
theorem rotate_ok (W0 : World) (o : Option Addr) (c n a m b : Nat) (fv : Value) (xs : List Int) (W : World) (h : StI W0 o c n xs W) (ham : a < m) (hmb : m < b) (hbn : b ≤ n) (hn : n ≤ 1000000) :
    Calls Try.prog 89 [.slice o n c, .int .i64 a, .int .i64 m, .int .i64 b, fv].toArray W (Ret fun v w' => v = .tuple #[] ∧ ∃ ys, StI W0 o c n ys w' ∧ ys.Perm xs ∧ ∀ k, ys.getD k 0 = xs.getD (rx a m b k) 0) := by
  refine calls_of_sc 58 [(0, _), (1, _), (2, _), (3, _), (4, _)] Try.func89 rfl rfl rfl (enter_slots ⟨rfl, rfl, rfl, rfl, rfl, trivial⟩) ?_
  refine Sc.seq ?_
  refine Sc.region ?_
  refine Sl.calm (Cm.move rfl) rfl ?_
  refine Sl.calm (Cm.move rfl) rfl ?_
  refine Sl.calm (Cm.sub64 rfl rfl (by omega)) rfl ?_
  refine Sl.calm (Cm.assign rfl) rfl ?_
  refine Sl.nil ?_
  refine At.weak [(0, _), (1, _), (2, _), (3, _), (4, _), (10, _)] ⟨rfl, rfl, rfl, rfl, rfl, rfl, trivial⟩ ?_
  refine At.go ?_
  refine Sc.seq ?_
  refine Sc.region ?_
  refine Sl.calm (Cm.move rfl) rfl ?_
  refine Sl.calm (Cm.move rfl) rfl ?_
  refine Sl.calm (Cm.sub64 rfl rfl (by omega)) rfl ?_
  refine Sl.calm (Cm.assign rfl) rfl ?_
  refine Sl.nil ?_
  refine At.weak [(0, _), (1, _), (2, _), (3, _), (4, _), (10, _), (11, _)] ⟨rfl, rfl, rfl, rfl, rfl, rfl, rfl, trivial⟩ ?_
  refine At.go ?_
  refine Sc.seq ?_
  refine Sc.block ?_
  refine Sc.loop (β := Nat × Nat × List Int) (fun ⟨i, j, ys⟩ => [(0, .slice o n c), (2, .int .i64 m), (4, fv), (10, .int .i64 i), (11, .int .i64 j)]) (fun ⟨i, j, ys⟩ w => (0 < i ∧ 0 < j ∧ i ≤ m ∧ m + j ≤ n) ∧ StI W0 o c n ys w ∧ ys.Perm xs ∧ ∀ k, xs.getD (rx a m b k) 0 = ys.getD (rx (m - i) m (m + j) k) 0) (fun ⟨i, j, ys⟩ => i + j) ⟨m - a, b - m, xs⟩ ⟨rfl, rfl, rfl, (congrArg (fun z : Int => some (Value.int .i64 z)) (by omega)), (congrArg (fun z : Int => some (Value.int .i64 z)) (by omega)), trivial⟩ ⟨⟨by omega, by omega, by omega, by omega⟩, h, List.Perm.refl _, fun k => by rw [show m - (m - a) = a by omega, show m + (b - m) = b by omega]⟩ ?_
  rintro ⟨i, j, ys⟩ w2 ⟨⟨hi0, hj0, him, hjn⟩, hy, hp, hk⟩
  refine Sc.seq ?_
  refine Sc.seq ?_
  refine Sc.region ?_
  refine Sl.calm (Cm.move rfl) rfl ?_
  refine Sl.calm (Cm.move rfl) rfl ?_
  refine Sl.fork (Cm.neq rfl rfl) rfl (fun h20 => ?_) (fun h20 => ?_)
  ·
    refine Sl.nil ?_
    refine At.weak [(0, _), (2, _), (4, _), (10, _), (11, _), (20, _)] ⟨rfl, rfl, rfl, rfl, rfl, rfl, trivial⟩ ?_
    refine At.go ?_
    refine Sc.cond_t rfl ?_
    refine Sc.skip ?_
    refine At.go ?_
    refine Sc.block ?_
    refine Sc.seq ?_
    refine Sc.region ?_
    refine Sl.calm (Cm.move rfl) rfl ?_
    refine Sl.calm (Cm.move rfl) rfl ?_
    refine Sl.fork (Cm.gtr rfl rfl) rfl (fun h23 => ?_) (fun h23 => ?_)
    ·
      refine Sl.nil ?_
      refine At.weak [(0, _), (2, _), (4, _), (10, _), (11, _), (20, _), (23, _)] ⟨rfl, rfl, rfl, rfl, rfl, rfl, rfl, trivial⟩ ?_
      refine At.go ?_
      refine Sc.cond_t rfl ?_
      refine Sc.seq ?_
      refine Sc.region ?_
      refine Sl.calm (Cm.move rfl) rfl ?_
      refine Sl.calm (Cm.move rfl) rfl ?_
      refine Sl.calm (Cm.move rfl) rfl ?_
      refine Sl.calm (Cm.sub64 rfl rfl (by omega)) rfl ?_
      refine Sl.calm (Cm.move rfl) rfl ?_
      refine Sl.calm (Cm.move rfl) rfl ?_
      refine Sl.calm (Cm.move rfl) rfl ?_
      obtain ⟨a1, ha1⟩ : ∃ a1 : Nat, a1 = m - i := ⟨_, rfl⟩
      refine Sl.call fn98 rfl ((by rw [show ((m : Int) - i) = ((m - i : Nat) : Int) by omega]; exact swapR_ok W0 o c n (m - i) m j fv ys w2 hy (by omega) (by omega) hn)) rfl ?_
      rintro _ w3 ⟨rfl, zs, hz, hzp, hzk⟩
      refine Sl.nil ?_
      refine At.weak [(0, _), (2, _), (4, _), (10, _), (11, _), (20, _), (23, _)] ⟨rfl, rfl, rfl, rfl, rfl, rfl, rfl, trivial⟩ ?_
      refine At.go ?_
      refine Sc.region ?_
      refine Sl.calm (Cm.move rfl) rfl ?_
      refine Sl.calm (Cm.move rfl) rfl ?_
      refine Sl.calm (Cm.sub64 rfl rfl (by omega)) rfl ?_
      refine Sl.calm (Cm.assign rfl) rfl ?_
      refine Sl.nil ?_
      refine At.block_normal ?_
      first
        | exact At.again ⟨i - j, j, zs⟩ ⟨rfl, rfl, rfl, congrArg (fun z : Int => some (Value.int .i64 z)) (by omega), rfl, trivial⟩ ⟨⟨by omega, by omega, by omega, by omega⟩, hz, hzp.trans hp, fun k => by rw [hk, hzk, rx_gt (by omega) hj0 him]⟩ (by show i - j + j < i + j; omega)
        | exact At.again ⟨i, j - i, zs⟩ ⟨rfl, rfl, rfl, rfl, congrArg (fun z : Int => some (Value.int .i64 z)) (by omega), trivial⟩ ⟨⟨by omega, by omega, by omega, by omega⟩, hz, hzp.trans hp, fun k => by rw [hk, hzk, rx_lt (by omega) hi0 him]⟩ (by show i + (j - i) < i + j; omega)
    ·
      refine Sl.nil ?_
      refine At.weak [(0, _), (2, _), (4, _), (10, _), (11, _), (20, _), (23, _)] ⟨rfl, rfl, rfl, rfl, rfl, rfl, rfl, trivial⟩ ?_
      refine At.go ?_
      refine Sc.cond_f rfl ?_
      refine Sc.seq ?_
      refine Sc.region ?_
      refine Sl.calm (Cm.move rfl) rfl ?_
      refine Sl.calm (Cm.move rfl) rfl ?_
      refine Sl.calm (Cm.move rfl) rfl ?_
      refine Sl.calm (Cm.sub64 rfl rfl (by omega)) rfl ?_
      refine Sl.calm (Cm.move rfl) rfl ?_
      refine Sl.calm (Cm.move rfl) rfl ?_
      refine Sl.calm (Cm.add64 rfl rfl (by omega)) rfl ?_
      refine Sl.calm (Cm.move rfl) rfl ?_
      refine Sl.calm (Cm.sub64 rfl rfl (by omega)) rfl ?_
      refine Sl.calm (Cm.move rfl) rfl ?_
      refine Sl.calm (Cm.move rfl) rfl ?_
      refine Sl.call fn98 rfl ((by rw [show ((m : Int) - i) = ((m - i : Nat) : Int) by omega, show ((m : Int) + j - i) = ((m + (j - i) : Nat) : Int) by omega]; exact swapR_ok W0 o c n (m - i) (m + (j - i)) i fv ys w2 hy (by omega) (by omega) hn)) rfl ?_
      rintro _ w3 ⟨rfl, zs, hz, hzp, hzk⟩
      refine Sl.nil ?_
      refine At.weak [(0, _), (2, _), (4, _), (10, _), (11, _), (20, _), (23, _)] ⟨rfl, rfl, rfl, rfl, rfl, rfl, rfl, trivial⟩ ?_
      refine At.go ?_
      refine Sc.region ?_
      refine Sl.calm (Cm.move rfl) rfl ?_
      refine Sl.calm (Cm.move rfl) rfl ?_
      refine Sl.calm (Cm.sub64 rfl rfl (by omega)) rfl ?_
      refine Sl.calm (Cm.assign rfl) rfl ?_
      refine Sl.nil ?_
      refine At.block_normal ?_
      first
        | exact At.again ⟨i - j, j, zs⟩ ⟨rfl, rfl, rfl, congrArg (fun z : Int => some (Value.int .i64 z)) (by omega), rfl, trivial⟩ ⟨⟨by omega, by omega, by omega, by omega⟩, hz, hzp.trans hp, fun k => by rw [hk, hzk, rx_gt (by omega) hj0 him]⟩ (by show i - j + j < i + j; omega)
        | exact At.again ⟨i, j - i, zs⟩ ⟨rfl, rfl, rfl, rfl, congrArg (fun z : Int => some (Value.int .i64 z)) (by omega), trivial⟩ ⟨⟨by omega, by omega, by omega, by omega⟩, hz, hzp.trans hp, fun k => by rw [hk, hzk, rx_lt (by omega) hi0 him]⟩ (by show i + (j - i) < i + j; omega)
  ·
    have hij : i = j := by omega
    subst hij
    refine Sl.nil ?_
    refine At.weak [(0, _), (2, _), (4, _), (10, _), (11, _), (20, _)] ⟨rfl, rfl, rfl, rfl, rfl, rfl, trivial⟩ ?_
    refine At.go ?_
    refine Sc.cond_f rfl ?_
    refine Sc.exit ?_
    refine At.then_exit ?_
    refine At.then_exit ?_
    refine At.block_hit ?_
    refine At.go ?_
    refine Sc.region ?_
    refine Sl.calm (Cm.move rfl) rfl ?_
    refine Sl.calm (Cm.move rfl) rfl ?_
    refine Sl.calm (Cm.move rfl) rfl ?_
    refine Sl.calm (Cm.sub64 rfl rfl (by omega)) rfl ?_
    refine Sl.calm (Cm.move rfl) rfl ?_
    refine Sl.calm (Cm.move rfl) rfl ?_
    refine Sl.calm (Cm.move rfl) rfl ?_
    refine Sl.call fn98 rfl ((by rw [show ((m : Int) - i) = ((m - i : Nat) : Int) by omega]; exact swapR_ok W0 o c n (m - i) m i fv ys w2 hy (by omega) (by omega) hn)) rfl ?_
    rintro _ w3 ⟨rfl, zs, hz, hzp, hzk⟩
    refine Sl.nil ?_
    refine At.end0 rfl ?_
    exact ⟨_, rfl, rfl, zs, hz, hzp.trans hp, fun k => by rw [hk, hzk, rx_eq him]⟩
end Go.Proofs.Ytpnfjfbfgaiolaa
/- slices.SortStableFunc over numbers: what is in order; the insertion sort. No condition beyond the bounds that each states. -/
namespace Go.Proofs.Ytpnfjfbfgaiolaa
open Go Go.RowKit
set_option linter.unusedVariables false

section
variable {K : Int → List (List UInt8)}
/-- ahead of, by names, and by the number where names are the same -/
def ltS (K : Int → List (List UInt8)) (x y : Int) : Prop := cmpL (K x) (K y) < 0 ∨ (cmpL (K x) (K y) = 0 ∧ x < y)
theorem ltS_trans {x y z : Int} (h1 : ltS K x y) (h2 : ltS K y z) : ltS K x z := by
  rcases h1 with h1 | ⟨h1, g1⟩
  · rcases h2 with h2 | ⟨h2, g2⟩
    · exact .inl (cmpL_trans h1 h2)
    · rw [cmpL_zero h2] at h1; exact .inl h1
  · rcases h2 with h2 | ⟨h2, g2⟩
    · rw [← cmpL_zero h1] at h2; exact .inl h2
    · exact .inr ⟨by rw [cmpL_zero h1, h2], by omega⟩
theorem ltS_yes {x y : Int} (h : cmpL (K y) (K x) < 0) : ltS K y x := .inl h
theorem ltS_no {x y : Int} (hxy : x < y) (h : ¬ cmpL (K y) (K x) < 0) : ltS K x y := by
  have := cmpL_neg (K y) (K x)
  by_cases e : cmpL (K x) (K y) = 0
  · exact .inr ⟨e, hxy⟩
  · exact .inl (by omega)
end
def Srt (K : Int → List (List UInt8)) (xs : List Int) (a b : Nat) : Prop := ∀ i j : Nat, a ≤ i → i < j → j < b → ltS K (xs.getD i 0) (xs.getD j 0)
def Inc (xs : List Int) (a b : Nat) : Prop := ∀ i j : Nat, a ≤ i → i < j → j < b → xs.getD i 0 < xs.getD j 0
def StB (xs : List Int) (a m b : Nat) : Prop := ∀ i j : Nat, a ≤ i → i < m → m ≤ j → j < b → xs.getD i 0 < xs.getD j 0
def Seg (xs ys : List Int) (a b : Nat) : Prop := ys.length = xs.length ∧ ys.Perm xs ∧ (∀ k : Nat, (k < a ∨ b ≤ k) → ys.getD k 0 = xs.getD k 0) ∧ ∀ k : Nat, a ≤ k → k < b → ∃ k' : Nat, a ≤ k' ∧ k' < b ∧ ys.getD k 0 = xs.getD k' 0
theorem Seg.refl (xs : List Int) (a b : Nat) : Seg xs xs a b := ⟨rfl, List.Perm.refl _, fun _ _ => rfl, fun k h1 h2 => ⟨k, h1, h2, rfl⟩⟩
theorem Seg.trans {xs ys zs : List Int} {a b : Nat} (h : Seg xs ys a b) (g : Seg ys zs a b) : Seg xs zs a b :=
  ⟨g.1.trans h.1, g.2.1.trans h.2.1, fun k hk => (g.2.2.1 k hk).trans (h.2.2.1 k hk), fun k h1 h2 => by
    obtain ⟨k', a1, a2, a3⟩ := g.2.2.2 k h1 h2
    obtain ⟨k'', b1, b2, b3⟩ := h.2.2.2 k' a1 a2
    exact ⟨k'', b1, b2, a3.trans b3⟩⟩
theorem Seg.wide {xs ys : List Int} {a b a' b' : Nat} (h : Seg xs ys a b) (ha : a' ≤ a) (hb : b ≤ b') : Seg xs ys a' b' :=
  ⟨h.1, h.2.1, fun k hk => h.2.2.1 k (by omega), fun k h1 h2 => by
    by_cases hk : a ≤ k ∧ k < b
    · obtain ⟨k', a1, a2, a3⟩ := h.2.2.2 k hk.1 hk.2
      exact ⟨k', by omega, by omega, a3⟩
    · exact ⟨k, h1, h2, h.2.2.1 k (by omega)⟩⟩
theorem Seg.swap {xs ys : List Int} {a b i j : Nat} (h : Seg xs ys a b) (hi : a ≤ i ∧ i < b) (hj : a ≤ j ∧ j < b) (hb : b ≤ ys.length) : Seg xs (swapL ys i j) a b := by
  refine h.trans ⟨swap_len _ _ _, swap_perm (by omega) (by omega), fun k hk => ?_, fun k h1 h2 => ⟨wx i j k, ?_, ?_, gd_swap (by omega) (by omega)⟩⟩
  · rw [gd_swap (by omega) (by omega)]
    have := wx_spec i j k
    rw [show wx i j k = k by omega]
  · have := wx_spec i j k; omega
  · have := wx_spec i j k; omega
theorem gd_mem {xs : List Int} {k : Nat} (h : k < xs.length) : xs.getD k 0 ∈ xs := by
  have : xs.getD k 0 = xs[k] := by simp [List.getD, h]
  rw [this]; exact List.getElem_mem h

/-- the comparison -/
structure CmpS (W0 : World) (o : Option Addr) (f : FuncId) (cs : List Value) (V : Int → Prop) (K : Int → List (List UInt8)) : Prop where
  fn : fnB Try.prog f = true
  call : ∀ (w : World) (x y : Int), Foot (blk o) W0 w → V x → V y → Calls Try.prog f ([Value.int .i64 x, Value.int .i64 y] ++ cs).toArray w (Ret fun v w' => v = .int .i64 (cmpL (K x) (K y)) ∧ Foot nob w w')
/-- what holds while one is on its way -/
def InsI (K : Int → List (List UInt8)) (ys : List Int) (a i j : Nat) : Prop := (∀ p q : Nat, a ≤ p → p < q → q ≤ i → p ≠ j → q ≠ j → ltS K (ys.getD p 0) (ys.getD q 0)) ∧ (∀ q : Nat, j < q → q ≤ i → ltS K (ys.getD j 0) (ys.getD q 0)) ∧ ∀ p : Nat, a ≤ p → p ≤ i → p ≠ j → ys.getD p 0 < ys.getD j 0
theorem InsI.step {K : Int → List (List UInt8)} {ys : List Int} {a i j : Nat} (h : InsI K ys a i j) (haj : a < j) (hji : j ≤ i) (hi : i < ys.length) (hl : cmpL (K (ys.getD j 0)) (K (ys.getD (j - 1) 0)) < 0) : InsI K (swapL ys j (j - 1)) a i (j - 1) := by
  obtain ⟨h1, h2, h3⟩ := h
  have g : ∀ k, (swapL ys j (j - 1)).getD k 0 = ys.getD (wx j (j - 1) k) 0 := fun k => gd_swap (by omega) (by omega)
  have gj : (swapL ys j (j - 1)).getD (j - 1) 0 = ys.getD j 0 := by rw [g]; have := wx_spec j (j - 1) (j - 1); rw [show wx j (j - 1) (j - 1) = j by omega]
  refine ⟨fun p q hp hpq hq n1 n2 => ?_, fun q hq hqi => ?_, fun p hp hpi hne => ?_⟩
  · rw [g, g]
    have s1 := wx_spec j (j - 1) p
    have s2 := wx_spec j (j - 1) q
    exact h1 _ _ (by omega) (by omega) (by omega) (by omega) (by omega)
  · rw [gj, g]
    have s2 := wx_spec j (j - 1) q
    by_cases e : q = j
    · rw [show wx j (j - 1) q = j - 1 by omega]; exact .inl hl
    · rw [show wx j (j - 1) q = q by omega]; exact h2 q (by omega) hqi
  · rw [gj, g]
    have s2 := wx_spec j (j - 1) p
    exact h3 _ (by omega) (by omega) (by omega)
theorem InsI.done {K : Int → List (List UInt8)} {ys : List Int} {a i j : Nat} (h : InsI K ys a i j) (haj : a ≤ j) (hji : j ≤ i) (hs : a < j → ¬ cmpL (K (ys.getD j 0)) (K (ys.getD (j - 1) 0)) < 0) : Srt K ys a (i + 1) := by
  obtain ⟨h1, h2, h3⟩ := h
  have hl : ∀ p, a ≤ p → p < j → ltS K (ys.getD p 0) (ys.getD j 0) := fun p hp hpj => by
    have h4 := ltS_no (h3 (j - 1) (by omega) (by omega) (by omega)) (hs (by omega))
    by_cases e : p = j - 1
    · rw [e]; exact h4
    · exact ltS_trans (h1 p (j - 1) hp (by omega) (by omega) (by omega) (by omega)) h4
  intro p q hp hpq hq
  by_cases e1 : p = j
  · subst e1; exact h2 q hpq (by omega)
  · by_cases e2 : q = j
    · subst e2; exact hl p hp hpq
    · exact h1 p q hp hpq (by omega) e1 e2
set_option maxHeartbeats 2000000 in
theorem insertS_ok {K : Int → List (List UInt8)} {V : Int → Prop} {f : FuncId} {cs : List Value} (W0 : World) (o : Option Addr) (hC : CmpS W0 o f cs V K) (c n a b : Nat) (xs : List Int) (W : World) (h : StI W0 o c n xs W) (hV : ∀ z ∈ xs, V z) (hab : a ≤ b) (hbn : b ≤ n) (hn : n ≤ 1000000) (hinc : Inc xs a b) :
    Calls Try.prog 73 [.slice o n c, .int .i64 a, .int .i64 b, .func (.func f) #[] cs.toArray].toArray W (Ret fun v w' => v = .tuple #[] ∧ ∃ ys, StI W0 o c n ys w' ∧ Seg xs ys a b ∧ Srt K ys a b) := by
  refine calls_of_sc 53 [(0, _), (1, _), (2, _), (3, _)] Try.func73 rfl rfl rfl (enter_slots ⟨rfl, rfl, rfl, rfl, trivial⟩) ?_
  refine Sc.seq ?_
  refine Sc.region ?_
  refine Sl.calm (Cm.move rfl) rfl ?_
  refine Sl.calm (Cm.add64 rfl rfl (by omega)) rfl ?_
  refine Sl.calm (Cm.assign rfl) rfl ?_
  refine Sl.nil ?_
  refine At.weak [(0, _), (1, _), (2, _), (3, _), (8, _)] ⟨rfl, rfl, rfl, rfl, rfl, trivial⟩ ?_
  refine At.go ?_
  refine Sc.block ?_
  refine Sc.loop (β := Nat × List Int) (fun ⟨i, ys⟩ => [(0, .slice o n c), (1, .int .i64 a), (2, .int .i64 b), (3, .func (.func f) #[] cs.toArray), (8, .int .i64 i)]) (fun ⟨i, ys⟩ w => (a < i ∧ (i ≤ b ∨ i = a + 1)) ∧ StI W0 o c n ys w ∧ Seg xs ys a (min i b) ∧ Srt K ys a i) (fun ⟨i, ys⟩ => b - i) ⟨a + 1, xs⟩ ⟨rfl, rfl, rfl, rfl, rfl, trivial⟩ ⟨⟨by omega, .inr rfl⟩, h, Seg.refl _ _ _, fun p q h1 h2 h3 => by omega⟩ ?_
  rintro ⟨i, ys⟩ w2 ⟨⟨hai, hib0⟩, hy, hs1, ht1⟩
  refine Sc.seq ?_
  refine Sc.seq ?_
  refine Sc.region ?_
  refine Sl.calm (Cm.move rfl) rfl ?_
  refine Sl.calm (Cm.move rfl) rfl ?_
  refine Sl.fork (Cm.lss rfl rfl) rfl (fun h14 => ?_) (fun h14 => ?_)
  ·
    have hib : i < b := by omega
    have hyl := hy.2.1
    refine Sl.nil ?_
    refine At.weak [(0, _), (1, _), (2, _), (3, _), (8, _), (14, _)] ⟨rfl, rfl, rfl, rfl, rfl, rfl, trivial⟩ ?_
    refine At.go ?_
    refine Sc.cond_t rfl ?_
    refine Sc.skip ?_
    refine At.go ?_
    refine Sc.cut (β := List Int) (fun vs => [(0, .slice o n c), (1, .int .i64 a), (2, .int .i64 b), (3, .func (.func f) #[] cs.toArray), (8, .int .i64 i)]) (fun vs w => StI W0 o c n vs w ∧ Seg xs vs a (i + 1) ∧ Srt K vs a (i + 1)) ?_ ?_
    ·
      refine Sc.block ?_
      refine Sc.seq ?_
      refine Sc.region ?_
      refine Sl.calm (Cm.move rfl) rfl ?_
      refine Sl.calm (Cm.assign rfl) rfl ?_
      refine Sl.nil ?_
      refine At.weak [(0, _), (1, _), (2, _), (3, _), (8, _), (9, _), (14, _)] ⟨rfl, rfl, rfl, rfl, rfl, rfl, rfl, trivial⟩ ?_
      refine At.go ?_
      refine Sc.block ?_
      refine Sc.loop (β := Nat × List Int) (fun ⟨j, zs⟩ => [(0, .slice o n c), (1, .int .i64 a), (2, .int .i64 b), (3, .func (.func f) #[] cs.toArray), (8, .int .i64 i), (9, .int .i64 j)]) (fun ⟨j, zs⟩ w => a ≤ j ∧ j ≤ i ∧ StI W0 o c n zs w ∧ Seg xs zs a (i + 1) ∧ InsI K zs a i j) (fun ⟨j, zs⟩ => j) ⟨i, ys⟩ ⟨rfl, rfl, rfl, rfl, rfl, rfl, trivial⟩ ⟨by omega, Nat.le_refl _, hy, by rw [Nat.min_eq_left (by omega)] at hs1; exact hs1.wide (Nat.le_refl _) (by omega), ⟨fun p q h1 h2 h3 h4 h5 => ht1 p q h1 h2 (by omega), fun q h1 h2 => by omega, fun p h1 h2 h3 => by rw [Nat.min_eq_left (by omega)] at hs1; obtain ⟨k, k1, k2, k3⟩ := hs1.2.2.2 p h1 (by omega); rw [k3, hs1.2.2.1 i (.inr (Nat.le_refl _))]; exact hinc k i k1 k2 hib⟩⟩ ?_
      rintro ⟨j, zs⟩ w4 ⟨haj, hji, hz, hs2, hI⟩
      refine Sc.seq ?_
      refine Sc.seq ?_
      refine Sc.draw 17 (fun H => Vw i64 H o c zs) [14] [0, 1, 2, 3, 4, 5, 6, 7, 8, 9, 10, 11, 12, 13, 14, 15, 16] mixed (by kernel_rfl) (hz.1.vw) ?_
      refine Sx.calm rfl rfl (Cm.move rfl) rfl ?_
      refine Sx.calm rfl rfl (Cm.move rfl) rfl ?_
      refine Sx.fork rfl rfl (Cm.gtr rfl rfl) rfl (fun h20 => ?_) (fun h20 => ?_)
      ·
        have hzl := hz.2.1
        have hVz : ∀ k : Nat, k < n → V (zs.getD k 0) := fun k hk => hV _ (hs2.2.1.mem_iff.1 (gd_mem (by omega)))
        refine Sx.calm rfl rfl (Cm.move rfl) rfl ?_
        refine Sx.want rfl rfl rfl rfl (Cm.move rfl) rfl ?_
        refine Sx.want rfl rfl rfl rfl (Cm.move rfl) rfl ?_
        refine Sx.want rfl rfl rfl rfl (Cm.move rfl) rfl ?_
        refine Sx.want rfl rfl rfl rfl (Cm.indexAddr1 sl37 rfl rfl (by rw [← hz.2.1]; exact hz.1.vw.non) (by omega)) rfl ?_
        refine Sx.want rfl rfl rfl rfl (Cm.load sca3 rfl (fun H (hH : Vw i64 H o c zs) => hH.gz 0 j rfl (by omega))) rfl ?_
        refine Sx.want rfl rfl rfl rfl (Cm.move rfl) rfl ?_
        refine Sx.want rfl rfl rfl rfl (Cm.move rfl) rfl ?_
        refine Sx.want rfl rfl rfl rfl (Cm.sub64 rfl rfl (by omega)) rfl ?_
        refine Sx.want rfl rfl rfl rfl (Cm.indexAddr1 sl37 rfl rfl (by rw [← hz.2.1]; exact hz.1.vw.non) (by omega)) rfl ?_
        refine Sx.want rfl rfl rfl rfl (Cm.load sca3 rfl (fun H (hH : Vw i64 H o c zs) => hH.gz 0 (j - 1) (by omega) (by omega))) rfl ?_
        refine Sx.eff rfl rfl (Sl.wanted rfl rfl <| Sl.callC hC.fn rfl rfl (hC.call _ (zs.getD j 0) (zs.getD (j - 1) 0) (hz.draws 1).2.2 (hVz j (by omega)) (hVz (j - 1) (by omega))) rfl ?_)
        intro v5 w5 hr5
        obtain ⟨rfl, hf5⟩ := hr5
        have hz5 : StI W0 o c n zs w5 := (hz.draws 1).grow hf5
        refine Sx.on (by exact hz5.1.vw) ?_
        refine Sx.forkWant rfl rfl rfl rfl (Cm.lss rfl rfl) rfl (fun h33 => ?_) (fun h33 => ?_)
        ·
          refine Sx.calm rfl rfl (Cm.pick_t rfl rfl) rfl ?_
          refine Sx.nil ?_
          refine At.weak [(0, _), (1, _), (2, _), (3, _), (8, _), (9, _), (34, _)] ⟨rfl, rfl, rfl, rfl, rfl, rfl, rfl, trivial⟩ ?_
          refine At.go ?_
          refine Sc.cond_t rfl ?_
          refine Sc.skip ?_
          refine At.go ?_
          refine Sc.seq ?_
          refine Sc.block ?_
          refine Sc.drawZ 15 [9, 13] (fun H => Vw i64 H o c zs) [15, 17] [0, 1, 2, 3, 4, 5, 6, 7, 8, 9, 10, 11, 12, 13, 14] (.alt 15 [16] (.alt 17 [] .fin .stop) .stop) mixed (by kernel_rfl) (hz5.1.vw) ?_
          refine Sz.calm rfl rfl (Cm.move rfl) rfl ?_
          refine Sz.calm rfl rfl (Cm.move rfl) rfl ?_
          refine Sz.calm rfl rfl (Cm.move rfl) rfl ?_
          refine Sz.calm rfl rfl (Cm.move rfl) rfl ?_
          refine Sz.calm rfl rfl (Cm.sub64 rfl rfl (by omega)) rfl ?_
          refine Sz.calm rfl rfl (Cm.move rfl) rfl ?_
          refine Sz.calm rfl rfl (Cm.move rfl) rfl ?_
          refine Sz.calm rfl rfl (Cm.sub64 rfl rfl (by omega)) rfl ?_
          refine Sz.calm rfl rfl (Cm.indexAddr1 sl37 rfl rfl (by rw [← hz.2.1]; exact hz.1.vw.non) (by omega)) rfl ?_
          refine Sz.calm rfl rfl (Cm.load sca3 rfl (fun H (hH : Vw i64 H o c zs) => hH.gz 0 (j - 1) (by omega) (by omega))) rfl ?_
          refine Sz.calm rfl rfl (Cm.move rfl) rfl ?_
          refine Sz.calm rfl rfl (Cm.move rfl) rfl ?_
          refine Sz.calm rfl rfl (Cm.indexAddr1 sl37 rfl rfl (by rw [← hz.2.1]; exact hz.1.vw.non) (by omega)) rfl ?_
          refine Sz.calm rfl rfl (Cm.load sca3 rfl (fun H (hH : Vw i64 H o c zs) => hH.gz 0 j rfl (by omega))) rfl ?_
          refine Sz.calm rfl rfl (Cm.indexAddr1 sl37 rfl rfl (by rw [← hz.2.1]; exact hz.1.vw.non) (by omega)) rfl ?_
          refine Sz.alt ?_ ?_
          ·
            refine Sz.eff rfl rfl (Sl.storeRow i64_oneS sca3 (z := (j : Int)) (u := zs.getD (j - 1) 0) rfl rfl (hz5.draws 1).1 (by omega) ?_)
            intro w6 ho6 hs6 hf6
            refine Sz.off rfl ?_
            refine Sz.calm rfl rfl (Cm.indexAddr1 sl37 rfl rfl (by rw [← hz.2.1]; exact hz.1.vw.non) (by omega)) rfl ?_
            refine Sz.alt ?_ ?_
            ·
              refine Sz.eff rfl rfl (Sl.storeRow i64_oneS sca3 (z := (j : Int) - 1) (u := zs.getD j 0) rfl rfl ho6 (by rw [List.length_set]; omega) ?_)
              intro w7 ho7 hs7 hf7
              have e2 : ((j : Int) - 1).toNat = j - 1 := by omega
              rw [e2] at ho7
              refine Sz.off rfl ?_
              refine Sz.nil ?_
              refine At.block_normal ?_
              refine At.weak [(0, _), (1, _), (2, _), (3, _), (8, _), (9, _), (34, _)] ⟨rfl, rfl, rfl, rfl, rfl, rfl, rfl, trivial⟩ ?_
              refine At.go ?_
              refine Sc.region ?_
              refine Sl.calm (Cm.move rfl) rfl ?_
              refine Sl.calm (Cm.sub64 rfl rfl (by omega)) rfl ?_
              refine Sl.calm (Cm.assign rfl) rfl ?_
              refine Sl.nil ?_
              exact At.again ⟨j - 1, swapL zs j (j - 1)⟩ ⟨rfl, rfl, rfl, rfl, rfl, congrArg (fun z : Int => some (Value.int .i64 z)) (by omega), trivial⟩ ⟨by omega, by omega, ⟨ho7, by rw [swap_len]; exact hzl, ((hz5.2.2.draws 1).trans hf6).trans hf7⟩, hs2.swap ⟨by omega, by omega⟩ ⟨by omega, by omega⟩ (by omega), hI.step (by omega) hji (by omega) h33⟩ (by show j - 1 < j; omega)
            exact Sz.stop
          exact Sz.stop
        ·
          have hstop : a < j → ¬ cmpL (K (zs.getD j 0)) (K (zs.getD (j - 1) 0)) < 0 := fun _ => h33
          refine Sx.calm rfl rfl (Cm.pick_t rfl rfl) rfl ?_
          refine Sx.nil ?_
          refine At.weak [(0, _), (1, _), (2, _), (3, _), (8, _), (9, _), (34, _)] ⟨rfl, rfl, rfl, rfl, rfl, rfl, rfl, trivial⟩ ?_
          refine At.go ?_
          refine Sc.cond_f rfl ?_
          refine Sc.exit ?_
          refine At.then_exit ?_
          refine At.then_exit ?_
          refine At.block_hit ?_
          refine At.block_normal ?_
          first
            | exact At.cut zs ⟨rfl, rfl, rfl, rfl, rfl, trivial⟩ ⟨hz5, hs2, hI.done haj hji hstop⟩
            | exact At.cut zs ⟨rfl, rfl, rfl, rfl, rfl, trivial⟩ ⟨hz.draws 1, hs2, hI.done haj hji hstop⟩
      ·
        have hstop : a < j → ¬ cmpL (K (zs.getD j 0)) (K (zs.getD (j - 1) 0)) < 0 := fun h => by omega
        refine Sx.calm rfl rfl (Cm.move rfl) rfl ?_
        refine Sx.skip rfl rfl rfl rfl rfl rfl ?_
        refine Sx.skip rfl rfl rfl rfl rfl rfl ?_
        refine Sx.skip rfl rfl rfl rfl rfl rfl ?_
        refine Sx.skip rfl rfl rfl rfl rfl rfl ?_
        refine Sx.skip rfl rfl rfl rfl rfl rfl ?_
        refine Sx.skip rfl rfl rfl rfl rfl rfl ?_
        refine Sx.skip rfl rfl rfl rfl rfl rfl ?_
        refine Sx.skip rfl rfl rfl rfl rfl rfl ?_
        refine Sx.skip rfl rfl rfl rfl rfl rfl ?_
        refine Sx.skip rfl rfl rfl rfl rfl rfl ?_
        refine Sx.eff rfl rfl (Sl.skip rfl rfl rfl rfl ?_)
        refine Sx.on (by exact hz.1.vw) ?_
        refine Sx.skip rfl rfl rfl rfl rfl rfl ?_
        refine Sx.calm rfl rfl (Cm.pick_f rfl rfl) rfl ?_
        refine Sx.nil ?_
        refine At.weak [(0, _), (1, _), (2, _), (3, _), (8, _), (9, _), (34, _)] ⟨rfl, rfl, rfl, rfl, rfl, rfl, rfl, trivial⟩ ?_
        refine At.go ?_
        refine Sc.cond_f rfl ?_
        refine Sc.exit ?_
        refine At.then_exit ?_
        refine At.then_exit ?_
        refine At.block_hit ?_
        refine At.block_normal ?_
        first
          | exact At.cut zs ⟨rfl, rfl, rfl, rfl, rfl, trivial⟩ ⟨hz5, hs2, hI.done haj hji hstop⟩
          | exact At.cut zs ⟨rfl, rfl, rfl, rfl, rfl, trivial⟩ ⟨hz.draws 1, hs2, hI.done haj hji hstop⟩
    ·
      rintro vs w8 ⟨hv8, hs8, ht8⟩
      refine Sc.region ?_
      refine Sl.calm (Cm.move rfl) rfl ?_
      refine Sl.calm (Cm.add64 rfl rfl (by omega)) rfl ?_
      refine Sl.calm (Cm.assign rfl) rfl ?_
      refine Sl.nil ?_
      exact At.again ⟨i + 1, vs⟩ ⟨rfl, rfl, rfl, rfl, rfl, trivial⟩ ⟨⟨by omega, .inl (by omega)⟩, hv8, by rw [Nat.min_eq_left (by omega)]; exact hs8, ht8⟩ (by show b - (i + 1) < b - i; omega)
  ·
    have hbi : b ≤ i := by omega
    refine Sl.nil ?_
    refine At.weak [(0, _), (1, _), (2, _), (3, _), (8, _), (14, _)] ⟨rfl, rfl, rfl, rfl, rfl, rfl, trivial⟩ ?_
    refine At.go ?_
    refine Sc.cond_f rfl ?_
    refine Sc.exit ?_
    refine At.then_exit ?_
    refine At.then_exit ?_
    refine At.block_hit ?_
    refine At.end0 rfl ?_
    refine ⟨_, rfl, rfl, ys, hy, by rw [Nat.min_eq_right hbi] at hs1; exact hs1, fun p q h1 h2 h3 => ht1 p q h1 h2 (by omega)⟩
end Go.Proofs.Ytpnfjfbfgaiolaa
/- slices.SortStableFunc over numbers: what symMerge leans on, in plain Lean. No condition beyond the bounds that each states. -/
namespace Go.Proofs.Ytpnfjfbfgaiolaa
open Go Go.RowKit
set_option linter.unusedVariables false

section
variable {P : Program} {N : Nt} {l : SF} {ty t' : TypeId} {pos : String} {aft : Array Edge} {dd : Option Nat} {g : Option (Nat × Bool)} {CH : Array Obj → Prop} {x y : Operand} {t : TypeId} {m n : Int} {k' : IntKind}
theorem Cm.shrU (hx : evL l x = some (.int .u64 m)) (hy : evL l y = some (.int k' n)) (hn : 0 ≤ n ∧ n ≤ 64) : Cm P N CH l ⟨dd, .binOp .shr t x y t', ty, pos, aft, g⟩ (.int .u64 (m / 2 ^ n.toNat)) := fun a w ha _ => by
  have h1 : ¬ (n < 0) := by omega
  have h2 : min n.toNat 64 = n.toNat := by omega
  have h3 : m.fdiv (2 ^ n.toNat) = m / 2 ^ n.toNat := Int.fdiv_eq_ediv_of_nonneg _ (Int.pow_nonneg (by decide))
  have h4 : (Op.shift .shr .u64 m k' n).run P w = .ok (.int .u64 (m / 2 ^ n.toNat)) w := by
    unfold Op.shift
    rw [if_neg h1]
    show (pure (Value.int .u64 (m.fdiv (2 ^ min n.toNat 64))) : Sem Value).run P w = _
    rw [h2, h3]; rfl
  simp only [execOp, ha.ev hx, ha.ev hy, eqGuard, binOp, Sem.run_bind]
  simp
end
theorem wrapU {z : Int} (h : 0 ≤ z ∧ z < 18446744073709551616) : IntKind.u64.wrap z = z := by
  unfold IntKind.wrap; simp [IntKind.bits, IntKind.signed]; omega

theorem halfI {i j : Nat} (h : i + j < 4611686018427387904) : IntKind.i64.wrap (((i : Int) + j) / 2 ^ (1 : Int).toNat) = (((i + j) / 2 : Nat) : Int) := by
  have e : (2 : Int) ^ (1 : Int).toNat = 2 := rfl
  rw [e, wrap64_id (by omega)]; omega
section
variable {K : Int → List (List UInt8)} {xs ys : List Int}
theorem srt_le {a b i j : Nat} {z : Int} (h : Srt K xs a b) (hi : a ≤ i) (hij : i ≤ j) (hj : j < b) (hz : ltS K (xs.getD j 0) z) : ltS K (xs.getD i 0) z := by
  by_cases e : i = j
  · rw [e]; exact hz
  · exact ltS_trans (h i j hi (by omega) hj) hz
theorem srt_ge {a b i j : Nat} {z : Int} (h : Srt K xs a b) (hi : a ≤ i) (hij : i ≤ j) (hj : j < b) (hz : ltS K z (xs.getD i 0)) : ltS K z (xs.getD j 0) := by
  by_cases e : i = j
  · rw [← e]; exact hz
  · exact ltS_trans hz (h i j hi (by omega) hj)
/-- one that goes up, past others -/
def ux (a k p : Nat) : Nat := if a ≤ p ∧ p < k then p + 1 else if p = k then a else p
theorem ux_spec (a k p : Nat) : (a ≤ p ∧ p < k ∧ ux a k p = p + 1) ∨ (¬ (a ≤ p ∧ p < k) ∧ p = k ∧ ux a k p = a) ∨ (¬ (a ≤ p ∧ p < k) ∧ p ≠ k ∧ ux a k p = p) := by
  unfold ux
  by_cases h1 : a ≤ p ∧ p < k
  · rw [if_pos h1]; exact .inl ⟨h1.1, h1.2, rfl⟩
  · rw [if_neg h1]
    by_cases h2 : p = k
    · rw [if_pos h2]; exact .inr (.inl ⟨h1, h2, rfl⟩)
    · rw [if_neg h2]; exact .inr (.inr ⟨h1, h2, rfl⟩)
theorem ux_zero (a p : Nat) : ux a a p = p := by have := ux_spec a a p; omega
theorem ux_succ {a k p : Nat} (h : a ≤ k) : ux a k (wx k (k + 1) p) = ux a (k + 1) p := by
  have h1 := wx_spec k (k + 1) p
  have h2 := ux_spec a k (wx k (k + 1) p)
  have h3 := ux_spec a (k + 1) p
  omega
/-- one that goes down -/
def dx (k m p : Nat) : Nat := if p = k then m else if k < p ∧ p ≤ m then p - 1 else p
theorem dx_spec (k m p : Nat) : (p = k ∧ dx k m p = m) ∨ (p ≠ k ∧ k < p ∧ p ≤ m ∧ dx k m p = p - 1) ∨ (p ≠ k ∧ ¬ (k < p ∧ p ≤ m) ∧ dx k m p = p) := by
  unfold dx
  by_cases h1 : p = k
  · rw [if_pos h1]; exact .inl ⟨h1, rfl⟩
  · rw [if_neg h1]
    by_cases h2 : k < p ∧ p ≤ m
    · rw [if_pos h2]; exact .inr (.inl ⟨h1, h2.1, h2.2, rfl⟩)
    · rw [if_neg h2]; exact .inr (.inr ⟨h1, h2, rfl⟩)
theorem dx_zero (m p : Nat) : dx m m p = p := by have := dx_spec m m p; omega
theorem dx_succ {k m p : Nat} (h : k < m) : dx (k + 1) m (wx (k + 1) k p) = dx k m p := by
  have h1 := wx_spec (k + 1) k p
  have h2 := dx_spec (k + 1) m (wx (k + 1) k p)
  have h3 := dx_spec k m p
  omega
theorem seg_of {a b : Nat} {s : Nat → Nat} (hp : ys.Perm xs) (hk : ∀ k, ys.getD k 0 = xs.getD (s k) 0) (h1 : ∀ k, (k < a ∨ b ≤ k) → s k = k) (h2 : ∀ k, a ≤ k → k < b → a ≤ s k ∧ s k < b) : Seg xs ys a b :=
  ⟨hp.length_eq, hp, fun k h => by rw [hk, h1 k h], fun k ha hb => ⟨s k, (h2 k ha hb).1, (h2 k ha hb).2, hk k⟩⟩
theorem up_srt {a b i : Nat} (h : Srt K xs (a + 1) b) (hai : a + 1 ≤ i) (hib : i ≤ b) (h1 : a + 1 < i → ltS K (xs.getD (i - 1) 0) (xs.getD a 0)) (h2 : i < b → ltS K (xs.getD a 0) (xs.getD i 0)) (hk : ∀ k, ys.getD k 0 = xs.getD (ux a (i - 1) k) 0) : Srt K ys a b := by
  have l1 : ∀ k, a + 1 ≤ k → k < i → ltS K (xs.getD k 0) (xs.getD a 0) := fun k p1 p2 => srt_le h p1 (show k ≤ i - 1 by omega) (by omega) (h1 (by omega))
  have l2 : ∀ k, i ≤ k → k < b → ltS K (xs.getD a 0) (xs.getD k 0) := fun k p1 p2 => srt_ge h (show a + 1 ≤ i by omega) p1 p2 (h2 (by omega))
  intro p q hp hpq hq
  rw [hk, hk]
  rcases ux_spec a (i - 1) p with ⟨_, s1, s2⟩ | ⟨s0, s1, s2⟩ | ⟨s0, s1, s2⟩ <;> rcases ux_spec a (i - 1) q with ⟨_, t1, t2⟩ | ⟨t0, t1, t2⟩ | ⟨t0, t1, t2⟩ <;> rw [s2, t2] <;> first | (exfalso; omega) | exact h _ _ (by omega) (by omega) (by omega) | exact l1 _ (by omega) (by omega) | exact l2 _ (by omega) (by omega)
theorem dn_srt {a m i : Nat} (h : Srt K xs a m) (hai : a ≤ i) (him : i ≤ m) (h1 : a < i → ltS K (xs.getD (i - 1) 0) (xs.getD m 0)) (h2 : i < m → ltS K (xs.getD m 0) (xs.getD i 0)) (hk : ∀ k, ys.getD k 0 = xs.getD (dx i m k) 0) : Srt K ys a (m + 1) := by
  have l1 : ∀ k, a ≤ k → k < i → ltS K (xs.getD k 0) (xs.getD m 0) := fun k p1 p2 => srt_le h p1 (show k ≤ i - 1 by omega) (by omega) (h1 (by omega))
  have l2 : ∀ k, i ≤ k → k < m → ltS K (xs.getD m 0) (xs.getD k 0) := fun k p1 p2 => srt_ge h hai p1 p2 (h2 (by omega))
  intro p q hp hpq hq
  rw [hk, hk]
  rcases dx_spec i m p with ⟨s1, s2⟩ | ⟨s0, s1, s3, s2⟩ | ⟨s0, s1, s2⟩ <;> rcases dx_spec i m q with ⟨t1, t2⟩ | ⟨t0, t1, t3, t2⟩ | ⟨t0, t1, t2⟩ <;> rw [s2, t2] <;> first | (exfalso; omega) | exact h _ _ (by omega) (by omega) (by omega) | exact l1 _ (by omega) (by omega) | exact l2 _ (by omega) (by omega)
/-- where two rows are cut that are laid together -/
structure Cut (K : Int → List (List UInt8)) (xs : List Int) (a m b s e md : Nat) : Prop where
  has : a ≤ s
  hsm : s ≤ m
  hme : m ≤ e
  heb : e ≤ b
  hmd : s + (e - m) = md
  x1 : ∀ i j : Nat, a ≤ i → i < s → e ≤ j → j < b → ltS K (xs.getD i 0) (xs.getD j 0)
  x2 : ∀ i j : Nat, s ≤ i → i < m → m ≤ j → j < e → ltS K (xs.getD j 0) (xs.getD i 0)
theorem rx_id {s m e k : Nat} (hs : s ≤ m) (he : m ≤ e) (h : ¬ (s < m ∧ m < e)) : rx s m e k = k := by
  have := rx_spec s m e k; omega
theorem Cut.halves {a m b s e md : Nat} (c : Cut K xs a m b s e md) (h1 : Srt K xs a m) (h2 : Srt K xs m b) (h3 : StB xs a m b) (hk : ∀ k, ys.getD k 0 = xs.getD (rx s m e k) 0) :
    Srt K ys a s ∧ Srt K ys s md ∧ StB ys a s md ∧ Srt K ys md e ∧ Srt K ys e b ∧ StB ys md e b ∧ ∀ i j : Nat, a ≤ i → i < md → md ≤ j → j < b → ltS K (ys.getD i 0) (ys.getD j 0) := by
  obtain ⟨c1, c2, c3, c4, c5, x1, x2⟩ := c
  have r : ∀ k, (s ≤ k ∧ k < md ∧ rx s m e k = k - s + m) ∨ (md ≤ k ∧ k < e ∧ rx s m e k = k - md + s) ∨ ((k < s ∨ e ≤ k) ∧ rx s m e k = k) := fun k => by have := rx_spec s m e k; omega
  refine ⟨fun i j p1 p2 p3 => ?_, fun i j p1 p2 p3 => ?_, fun i j p1 p2 p3 p4 => ?_, fun i j p1 p2 p3 => ?_, fun i j p1 p2 p3 => ?_, fun i j p1 p2 p3 p4 => ?_, fun i j p1 p2 p3 p4 => ?_⟩ <;> rw [hk, hk] <;> rcases r i with ⟨s1, s2, s3⟩ | ⟨s1, s2, s3⟩ | ⟨s1, s3⟩ <;> rcases r j with ⟨t1, t2, t3⟩ | ⟨t1, t2, t3⟩ | ⟨t1, t3⟩ <;> rw [s3, t3] <;>
    first | (exfalso; omega) | exact h1 _ _ (by omega) (by omega) (by omega) | exact h2 _ _ (by omega) (by omega) (by omega) | exact h3 _ _ (by omega) (by omega) (by omega) (by omega) | exact x1 _ _ (by omega) (by omega) (by omega) (by omega) | exact x2 _ _ (by omega) (by omega) (by omega) (by omega)
theorem cut_of {a m b md s : Nat} (ham : a < m) (hmb : m < b) (hmd : md = (a + b) / 2) (h1 : Srt K xs a m) (h2 : Srt K xs m b) {S0 R0 : Nat} (hSR : (md < m ∧ S0 = md + m - b ∧ R0 = md) ∨ (¬ md < m ∧ S0 = a ∧ R0 = m)) (hs0 : S0 ≤ s) (hsR : s ≤ R0)
    (g1 : S0 < s → ltS K (xs.getD (s - 1) 0) (xs.getD (md + m - s) 0)) (g2 : s < R0 → ltS K (xs.getD (md + m - 1 - s) 0) (xs.getD s 0)) : Cut K xs a m b s (md + m - s) md := by
  refine ⟨by omega, by omega, by omega, by omega, by omega, fun i j p1 p2 p3 p4 => ?_, fun i j p1 p2 p3 p4 => ?_⟩
  · have hlt := g1 (by omega)
    exact srt_le h1 p1 (show i ≤ s - 1 by omega) (by omega) (srt_ge h2 (show m ≤ md + m - s by omega) p3 p4 hlt)
  · have hlt := g2 (by omega)
    exact srt_le h2 p3 (show j ≤ md + m - 1 - s by omega) (by omega) (srt_ge h1 (show a ≤ s by omega) p1 p2 hlt)
theorem srt_same {a b : Nat} (h : Srt K ys a b) (hk : ∀ k, a ≤ k → k < b → xs.getD k 0 = ys.getD k 0) : Srt K xs a b := fun i j p1 p2 p3 => by rw [hk i p1 (by omega), hk j (by omega) p3]; exact h i j p1 p2 p3
theorem stb_same {a m b : Nat} (h : StB ys a m b) (hmb : m ≤ b) (hk : ∀ k, a ≤ k → k < b → xs.getD k 0 = ys.getD k 0) : StB xs a m b := fun i j p1 p2 p3 p4 => by rw [hk i p1 (by omega), hk j (by omega) p4]; exact h i j p1 p2 p3 p4
theorem join_srt {zs us : List Int} {a md b : Nat} (h1 : a ≤ md) (h2 : md ≤ b) (g1 : Seg ys zs a md) (g2 : Seg zs us md b) (s1 : Srt K zs a md) (s2 : Srt K us md b) (hlr : ∀ i j : Nat, a ≤ i → i < md → md ≤ j → j < b → ltS K (ys.getD i 0) (ys.getD j 0)) : Srt K us a b := by
  intro i j p1 p2 p3
  by_cases hj : j < md
  · rw [g2.2.2.1 i (.inl (by omega)), g2.2.2.1 j (.inl hj)]; exact s1 i j p1 p2 hj
  · by_cases hi : md ≤ i
    · exact s2 i j hi p2 p3
    · rw [g2.2.2.1 i (.inl (by omega))]
      obtain ⟨i', a1, a2, a3⟩ := g1.2.2.2 i p1 (by omega)
      obtain ⟨j', b1, b2, b3⟩ := g2.2.2.2 j (by omega) p3
      rw [a3, b3, g1.2.2.1 j' (.inr b1)]
      exact hlr i' j' a1 a2 b1 b2
end
end Go.Proofs.Ytpnfjfbfgaiolaa
/- slices.SortStableFunc over numbers: symMerge. No condition beyond the bounds that each states. -/
namespace Go.Proofs.Ytpnfjfbfgaiolaa
open Go Go.RowKit
set_option linter.unusedVariables false

set_option maxHeartbeats 8000000 in
theorem symS_ok {K : Int → List (List UInt8)} {V : Int → Prop} {f : FuncId} {cs : List Value} (W0 : World) (o : Option Addr) (hC : CmpS W0 o f cs V K) (c n : Nat) (hn : n ≤ 1000000) : ∀ (d a m b : Nat) (xs : List Int) (W : World), b - a ≤ d → StI W0 o c n xs W → (∀ z ∈ xs, V z) → a < m → m < b → b ≤ n → Srt K xs a m → Srt K xs m b → StB xs a m b →
    Calls Try.prog 74 [.slice o n c, .int .i64 a, .int .i64 m, .int .i64 b, .func (.func f) #[] cs.toArray].toArray W (Ret fun v w' => v = .tuple #[] ∧ ∃ ys, StI W0 o c n ys w' ∧ Seg xs ys a b ∧ Srt K ys a b) := by
  intro d
  induction d with
  | zero => intro a m b xs W hd h hV ham hmb; omega
  | succ d ih =>
    intro a m b xs W hd h hV ham hmb hbn h1 h2 h3
    have hxl := h.2.1
    have hVx : ∀ k : Nat, k < n → V (xs.getD k 0) := fun k hk => hV _ (gd_mem (by omega))
    refine calls_of_sc 220 [(0, _), (1, _), (2, _), (3, _), (4, _)] Try.func74 rfl rfl rfl (enter_slots ⟨rfl, rfl, rfl, rfl, rfl, trivial⟩) ?_
    refine Sc.seq ?_
    refine Sc.seq ?_
    refine Sc.region ?_
    refine Sl.calm (Cm.move rfl) rfl ?_
    refine Sl.calm (Cm.move rfl) rfl ?_
    refine Sl.calm (Cm.sub64 rfl rfl (by omega)) rfl ?_
    refine Sl.fork (Cm.eql rfl rfl) rfl (fun h28 => ?_) (fun h28 => ?_)
    ·
      refine Sl.nil ?_
      refine At.weak [(0, _), (1, _), (2, _), (3, _), (4, _), (28, _)] ⟨rfl, rfl, rfl, rfl, rfl, rfl, trivial⟩ ?_
      refine At.go ?_
      refine Sc.cond_t rfl ?_
      refine Sc.seq ?_
      refine Sc.region ?_
      refine Sl.calm (Cm.move rfl) rfl ?_
      refine Sl.calm (Cm.assign rfl) rfl ?_
      refine Sl.nil ?_
      refine At.weak [(0, _), (1, _), (2, _), (3, _), (4, _), (10, _), (28, _)] ⟨rfl, rfl, rfl, rfl, rfl, rfl, rfl, trivial⟩ ?_
      refine At.go ?_
      refine Sc.seq ?_
      refine Sc.region ?_
      refine Sl.calm (Cm.move rfl) rfl ?_
      refine Sl.calm (Cm.assign rfl) rfl ?_
      refine Sl.nil ?_
      refine At.weak [(0, _), (1, _), (2, _), (3, _), (4, _), (10, _), (11, _), (28, _)] ⟨rfl, rfl, rfl, rfl, rfl, rfl, rfl, rfl, trivial⟩ ?_
      refine At.go ?_
      refine Sc.seq ?_
      refine Sc.block ?_
      refine Sc.loop (β := Nat × Nat) (fun ⟨i, j⟩ => [(0, .slice o n c), (1, .int .i64 a), (4, .func (.func f) #[] cs.toArray), (10, .int .i64 i), (11, .int .i64 j)]) (fun ⟨i, j⟩ w => (m ≤ i ∧ i ≤ j ∧ j ≤ b) ∧ StI W0 o c n xs w ∧ (m < i → ltS K (xs.getD (i - 1) 0) (xs.getD a 0)) ∧ (j < b → ltS K (xs.getD a 0) (xs.getD j 0))) (fun ⟨i, j⟩ => j - i) ⟨m, b⟩ ⟨rfl, rfl, rfl, rfl, rfl, trivial⟩ ⟨⟨by omega, by omega, by omega⟩, h, fun h => by omega, fun h => by omega⟩ ?_
      rintro ⟨i, j⟩ w4 ⟨⟨i1, i2, i3⟩, hz, g1, g2⟩
      refine Sc.seq ?_
      refine Sc.seq ?_
      refine Sc.region ?_
      refine Sl.calm (Cm.move rfl) rfl ?_
      refine Sl.calm (Cm.move rfl) rfl ?_
      refine Sl.fork (Cm.lss rfl rfl) rfl (fun h33 => ?_) (fun h33 => ?_)
      ·
        have hij : i < j := by omega
        refine Sl.nil ?_
        refine At.weak [(0, _), (1, _), (4, _), (10, _), (11, _), (33, _)] ⟨rfl, rfl, rfl, rfl, rfl, rfl, trivial⟩ ?_
        refine At.go ?_
        refine Sc.cond_t rfl ?_
        refine Sc.skip ?_
        refine At.go ?_
        refine Sc.block ?_
        refine Sc.seq ?_
        refine Sc.region ?_
        refine Sl.calm (Cm.move rfl) rfl ?_
        refine Sl.calm (Cm.move rfl) rfl ?_
        refine Sl.calm (Cm.add64 rfl rfl (by omega)) rfl ?_
        refine Sl.calm (Cm.convI_in (n := ((i : Int) + j)) is3 ty83 rfl (wrapU (by omega))) rfl ?_
        refine Sl.calm (Cm.shrU rfl rfl (by decide)) rfl ?_
        refine Sl.calm (Cm.convI_in (n := (((i + j) / 2 : Nat) : Int)) is83 ty3 rfl (halfI (by omega))) rfl ?_
        obtain ⟨q, hq⟩ : ∃ q : Nat, q = (i + j) / 2 := ⟨_, rfl⟩
        rw [← hq]
        refine Sl.calm (Cm.assign rfl) rfl ?_
        refine Sl.nil ?_
        refine At.weak [(0, _), (1, _), (4, _), (10, _), (11, _), (12, _), (33, _)] ⟨rfl, rfl, rfl, rfl, rfl, rfl, rfl, trivial⟩ ?_
        refine At.go ?_
        refine Sc.seq ?_
        refine Sc.draw 11 (fun H => Vw i64 H o c xs) [9] [0, 1, 2, 3, 4, 5, 6, 7, 8, 9, 10] mixed (by kernel_rfl) (hz.1.vw) ?_
        refine Sx.calm rfl rfl (Cm.move rfl) rfl ?_
        refine Sx.calm rfl rfl (Cm.move rfl) rfl ?_
        refine Sx.calm rfl rfl (Cm.move rfl) rfl ?_
        refine Sx.calm rfl rfl (Cm.indexAddr1 sl37 rfl rfl (by rw [← hxl]; exact hz.1.vw.non) (by omega)) rfl ?_
        refine Sx.calm rfl rfl (Cm.load sca3 rfl (fun H (hH : Vw i64 H o c xs) => hH.gz 0 q rfl (by omega))) rfl ?_
        refine Sx.calm rfl rfl (Cm.move rfl) rfl ?_
        refine Sx.calm rfl rfl (Cm.move rfl) rfl ?_
        refine Sx.calm rfl rfl (Cm.indexAddr1 sl37 rfl rfl (by rw [← hxl]; exact hz.1.vw.non) (by omega)) rfl ?_
        refine Sx.calm rfl rfl (Cm.load sca3 rfl (fun H (hH : Vw i64 H o c xs) => hH.gz 0 a rfl (by omega))) rfl ?_
        refine Sx.eff rfl rfl (Sl.callC hC.fn rfl rfl (hC.call _ (xs.getD q 0) (xs.getD a 0) (hz.draws 1).2.2 (hVx q (by omega)) (hVx a (by omega))) rfl ?_)
        intro v5 w5 hr5
        obtain ⟨rfl, hf5⟩ := hr5
        have hz5 : StI W0 o c n xs w5 := (hz.draws 1).grow hf5
        refine Sx.on (by exact hz5.1.vw) ?_
        refine Sx.fork rfl rfl (Cm.lss rfl rfl) rfl (fun h50 => ?_) (fun h50 => ?_)
        ·
          refine Sx.nil ?_
          refine At.weak [(0, _), (1, _), (4, _), (10, _), (11, _), (12, _), (33, _), (50, _)] ⟨rfl, rfl, rfl, rfl, rfl, rfl, rfl, rfl, trivial⟩ ?_
          refine At.go ?_
          refine Sc.cond_t rfl ?_
          refine Sc.region ?_
          refine Sl.calm (Cm.move rfl) rfl ?_
          refine Sl.calm (Cm.add64 rfl rfl (by omega)) rfl ?_
          refine Sl.calm (Cm.assign rfl) rfl ?_
          refine Sl.nil ?_
          refine At.block_normal ?_
          first
            | exact At.again ⟨q + 1, j⟩ ⟨rfl, rfl, rfl, rfl, rfl, trivial⟩ ⟨⟨by omega, by omega, by omega⟩, hz5, fun _ => ltS_yes h50, g2⟩ (by show j - (q + 1) < j - i; omega)
            | exact At.again ⟨i, q⟩ ⟨rfl, rfl, rfl, rfl, rfl, trivial⟩ ⟨⟨by omega, by omega, by omega⟩, hz5, g1, fun _ => ltS_no (h3 a q (Nat.le_refl _) ham (by omega) (by omega)) h50⟩ (by show q - i < j - i; omega)
        ·
          refine Sx.nil ?_
          refine At.weak [(0, _), (1, _), (4, _), (10, _), (11, _), (12, _), (33, _), (50, _)] ⟨rfl, rfl, rfl, rfl, rfl, rfl, rfl, rfl, trivial⟩ ?_
          refine At.go ?_
          refine Sc.cond_f rfl ?_
          refine Sc.region ?_
          refine Sl.calm (Cm.move rfl) rfl ?_
          refine Sl.calm (Cm.assign rfl) rfl ?_
          refine Sl.nil ?_
          refine At.block_normal ?_
          first
            | exact At.again ⟨q + 1, j⟩ ⟨rfl, rfl, rfl, rfl, rfl, trivial⟩ ⟨⟨by omega, by omega, by omega⟩, hz5, fun _ => ltS_yes h50, g2⟩ (by show j - (q + 1) < j - i; omega)
            | exact At.again ⟨i, q⟩ ⟨rfl, rfl, rfl, rfl, rfl, trivial⟩ ⟨⟨by omega, by omega, by omega⟩, hz5, g1, fun _ => ltS_no (h3 a q (Nat.le_refl _) ham (by omega) (by omega)) h50⟩ (by show q - i < j - i; omega)
      ·
        have hije : i = j := by omega
        subst hije
        refine Sl.nil ?_
        refine At.weak [(0, _), (1, _), (4, _), (10, _), (11, _), (33, _)] ⟨rfl, rfl, rfl, rfl, rfl, rfl, trivial⟩ ?_
        refine At.go ?_
        refine Sc.cond_f rfl ?_
        refine Sc.exit ?_
        refine At.then_exit ?_
        refine At.then_exit ?_
        refine At.block_hit ?_
        refine At.go ?_
        refine Sc.seq ?_
        refine Sc.seq ?_
        refine Sc.region ?_
        refine Sl.calm (Cm.move rfl) rfl ?_
        refine Sl.calm (Cm.assign rfl) rfl ?_
        refine Sl.nil ?_
        refine At.weak [(0, _), (1, _), (4, _), (10, _), (11, _), (13, _), (33, _)] ⟨rfl, rfl, rfl, rfl, rfl, rfl, rfl, trivial⟩ ?_
        refine At.go ?_
        refine Sc.block ?_
        refine Sc.loop (β := Nat × List Int) (fun ⟨k, ys⟩ => [(0, .slice o n c), (10, .int .i64 i), (13, .int .i64 k)]) (fun ⟨k, ys⟩ w => (a ≤ k ∧ k ≤ i - 1) ∧ StI W0 o c n ys w ∧ ys.Perm xs ∧ ∀ p, ys.getD p 0 = xs.getD (ux a k p) 0) (fun ⟨k, ys⟩ => i - 1 - k) ⟨a, xs⟩ ⟨rfl, rfl, rfl, trivial⟩ ⟨⟨Nat.le_refl _, by omega⟩, hz, List.Perm.refl _, fun p => by rw [ux_zero]⟩ ?_
        rintro ⟨k, ys⟩ w4 ⟨⟨k1, k2⟩, hy, hyp, hyk⟩
        refine Sc.seq ?_
        refine Sc.seq ?_
        refine Sc.region ?_
        refine Sl.calm (Cm.move rfl) rfl ?_
        refine Sl.calm (Cm.move rfl) rfl ?_
        refine Sl.calm (Cm.sub64 rfl rfl (by omega)) rfl ?_
        refine Sl.fork (Cm.lss rfl rfl) rfl (fun h58 => ?_) (fun h58 => ?_)
        ·
          have hyl := hy.2.1
          refine Sl.nil ?_
          refine At.weak [(0, _), (10, _), (13, _), (58, _)] ⟨rfl, rfl, rfl, rfl, trivial⟩ ?_
          refine At.go ?_
          refine Sc.cond_t rfl ?_
          refine Sc.skip ?_
          refine At.go ?_
          refine Sc.seq ?_
          refine Sc.block ?_
          refine Sc.drawZ 15 [9, 13] (fun H => Vw i64 H o c ys) [15, 17] [0, 1, 2, 3, 4, 5, 6, 7, 8, 9, 10, 11, 12, 13, 14] (.alt 15 [16] (.alt 17 [] .fin .stop) .stop) mixed (by kernel_rfl) (hy.1.vw) ?_
          refine Sz.calm rfl rfl (Cm.move rfl) rfl ?_
          refine Sz.calm rfl rfl (Cm.move rfl) rfl ?_
          refine Sz.calm rfl rfl (Cm.move rfl) rfl ?_
          refine Sz.calm rfl rfl (Cm.move rfl) rfl ?_
          refine Sz.calm rfl rfl (Cm.add64 rfl rfl (by omega)) rfl ?_
          refine Sz.calm rfl rfl (Cm.move rfl) rfl ?_
          refine Sz.calm rfl rfl (Cm.move rfl) rfl ?_
          refine Sz.calm rfl rfl (Cm.add64 rfl rfl (by omega)) rfl ?_
          refine Sz.calm rfl rfl (Cm.indexAddr1 sl37 rfl rfl (by rw [← hy.2.1]; exact hy.1.vw.non) (by omega)) rfl ?_
          refine Sz.calm rfl rfl (Cm.load sca3 rfl (fun H (hH : Vw i64 H o c ys) => hH.gz 0 (k + 1) (by omega) (by omega))) rfl ?_
          refine Sz.calm rfl rfl (Cm.move rfl) rfl ?_
          refine Sz.calm rfl rfl (Cm.move rfl) rfl ?_
          refine Sz.calm rfl rfl (Cm.indexAddr1 sl37 rfl rfl (by rw [← hy.2.1]; exact hy.1.vw.non) (by omega)) rfl ?_
          refine Sz.calm rfl rfl (Cm.load sca3 rfl (fun H (hH : Vw i64 H o c ys) => hH.gz 0 k rfl (by omega))) rfl ?_
          refine Sz.calm rfl rfl (Cm.indexAddr1 sl37 rfl rfl (by rw [← hy.2.1]; exact hy.1.vw.non) (by omega)) rfl ?_
          refine Sz.alt ?_ ?_
          ·
            refine Sz.eff rfl rfl (Sl.storeRow i64_oneS sca3 (z := (k : Int)) (u := ys.getD (k + 1) 0) rfl rfl (hy.draws 1).1 (by omega) ?_)
            intro w6 ho6 hs6 hf6
            refine Sz.off rfl ?_
            refine Sz.calm rfl rfl (Cm.indexAddr1 sl37 rfl rfl (by rw [← hy.2.1]; exact hy.1.vw.non) (by omega)) rfl ?_
            refine Sz.alt ?_ ?_
            ·
              refine Sz.eff rfl rfl (Sl.storeRow i64_oneS sca3 (z := (k : Int) + 1) (u := ys.getD k 0) rfl rfl ho6 (by rw [List.length_set]; omega) ?_)
              intro w7 ho7 hs7 hf7
              have e2 : ((k : Int) + 1).toNat = k + 1 := by omega
              rw [e2] at ho7
              refine Sz.off rfl ?_
              refine Sz.nil ?_
              refine At.block_normal ?_
              refine At.weak [(0, _), (10, _), (13, _), (58, _)] ⟨rfl, rfl, rfl, rfl, trivial⟩ ?_
              refine At.go ?_
              refine Sc.region ?_
              refine Sl.calm (Cm.move rfl) rfl ?_
              refine Sl.calm (Cm.add64 rfl rfl (by omega)) rfl ?_
              refine Sl.calm (Cm.assign rfl) rfl ?_
              refine Sl.nil ?_
              exact At.again ⟨k + 1, swapL ys k (k + 1)⟩ ⟨rfl, rfl, rfl, trivial⟩ ⟨⟨by omega, by omega⟩, ⟨ho7, by rw [swap_len]; exact hyl, ((hy.2.2.draws 1).trans hf6).trans hf7⟩, (swap_perm (by omega) (by omega)).trans hyp, fun p => by rw [gd_swap (by omega) (by omega), hyk, ux_succ k1]⟩ (by show i - 1 - (k + 1) < i - 1 - k; omega)
            exact Sz.stop
          exact Sz.stop
        ·
          have hke : k = i - 1 := by omega
          refine Sl.nil ?_
          refine At.weak [(0, _), (10, _), (13, _), (58, _)] ⟨rfl, rfl, rfl, rfl, trivial⟩ ?_
          refine At.go ?_
          refine Sc.cond_f rfl ?_
          refine Sc.exit ?_
          refine At.then_exit ?_
          refine At.then_exit ?_
          refine At.block_hit ?_
          refine At.go ?_
          refine Sc.ret ?_
          refine At.then_ret ?_
          refine At.ret0 rfl ?_
          have hma : m = a + 1 := by omega
          rw [hke] at hyk
          refine ⟨_, rfl, rfl, ys, hy, seg_of hyp hyk (fun p hp => by have := ux_spec a (i - 1) p; omega) (fun p p1 p2 => by have := ux_spec a (i - 1) p; omega), ?_⟩
          rw [hma] at h2 g1 i1
          exact up_srt h2 i1 i3 g1 g2 hyk
    ·
      refine Sl.nil ?_
      refine At.weak [(0, _), (1, _), (2, _), (3, _), (4, _), (28, _)] ⟨rfl, rfl, rfl, rfl, rfl, rfl, trivial⟩ ?_
      refine At.go ?_
      refine Sc.cond_f rfl ?_
      refine Sc.skip ?_
      refine At.go ?_
      refine Sc.seq ?_
      refine Sc.seq ?_
      refine Sc.region ?_
      refine Sl.calm (Cm.move rfl) rfl ?_
      refine Sl.calm (Cm.move rfl) rfl ?_
      refine Sl.calm (Cm.sub64 rfl rfl (by omega)) rfl ?_
      refine Sl.fork (Cm.eql rfl rfl) rfl (fun h80 => ?_) (fun h80 => ?_)
      ·
        refine Sl.nil ?_
        refine At.weak [(0, _), (1, _), (2, _), (3, _), (4, _), (28, _), (80, _)] ⟨rfl, rfl, rfl, rfl, rfl, rfl, rfl, trivial⟩ ?_
        refine At.go ?_
        refine Sc.cond_t rfl ?_
        refine Sc.seq ?_
        refine Sc.region ?_
        refine Sl.calm (Cm.move rfl) rfl ?_
        refine Sl.calm (Cm.assign rfl) rfl ?_
        refine Sl.nil ?_
        refine At.weak [(0, _), (1, _), (2, _), (3, _), (4, _), (14, _), (28, _), (80, _)] ⟨rfl, rfl, rfl, rfl, rfl, rfl, rfl, rfl, trivial⟩ ?_
        refine At.go ?_
        refine Sc.seq ?_
        refine Sc.region ?_
        refine Sl.calm (Cm.move rfl) rfl ?_
        refine Sl.calm (Cm.assign rfl) rfl ?_
        refine Sl.nil ?_
        refine At.weak [(0, _), (1, _), (2, _), (3, _), (4, _), (14, _), (15, _), (28, _), (80, _)] ⟨rfl, rfl, rfl, rfl, rfl, rfl, rfl, rfl, rfl, trivial⟩ ?_
        refine At.go ?_
        refine Sc.seq ?_
        refine Sc.block ?_
        refine Sc.loop (β := Nat × Nat) (fun ⟨i, j⟩ => [(0, .slice o n c), (2, .int .i64 m), (4, .func (.func f) #[] cs.toArray), (14, .int .i64 i), (15, .int .i64 j)]) (fun ⟨i, j⟩ w => (a ≤ i ∧ i ≤ j ∧ j ≤ m) ∧ StI W0 o c n xs w ∧ (a < i → ltS K (xs.getD (i - 1) 0) (xs.getD m 0)) ∧ (j < m → ltS K (xs.getD m 0) (xs.getD j 0))) (fun ⟨i, j⟩ => j - i) ⟨a, m⟩ ⟨rfl, rfl, rfl, rfl, rfl, trivial⟩ ⟨⟨by omega, by omega, by omega⟩, h, fun h => by omega, fun h => by omega⟩ ?_
        rintro ⟨i, j⟩ w4 ⟨⟨i1, i2, i3⟩, hz, g1, g2⟩
        refine Sc.seq ?_
        refine Sc.seq ?_
        refine Sc.region ?_
        refine Sl.calm (Cm.move rfl) rfl ?_
        refine Sl.calm (Cm.move rfl) rfl ?_
        refine Sl.fork (Cm.lss rfl rfl) rfl (fun h85 => ?_) (fun h85 => ?_)
        ·
          have hij : i < j := by omega
          refine Sl.nil ?_
          refine At.weak [(0, _), (2, _), (4, _), (14, _), (15, _), (85, _)] ⟨rfl, rfl, rfl, rfl, rfl, rfl, trivial⟩ ?_
          refine At.go ?_
          refine Sc.cond_t rfl ?_
          refine Sc.skip ?_
          refine At.go ?_
          refine Sc.block ?_
          refine Sc.seq ?_
          refine Sc.region ?_
          refine Sl.calm (Cm.move rfl) rfl ?_
          refine Sl.calm (Cm.move rfl) rfl ?_
          refine Sl.calm (Cm.add64 rfl rfl (by omega)) rfl ?_
          refine Sl.calm (Cm.convI_in (n := ((i : Int) + j)) is3 ty83 rfl (wrapU (by omega))) rfl ?_
          refine Sl.calm (Cm.shrU rfl rfl (by decide)) rfl ?_
          refine Sl.calm (Cm.convI_in (n := (((i + j) / 2 : Nat) : Int)) is83 ty3 rfl (halfI (by omega))) rfl ?_
          obtain ⟨q, hq⟩ : ∃ q : Nat, q = (i + j) / 2 := ⟨_, rfl⟩
          rw [← hq]
          refine Sl.calm (Cm.assign rfl) rfl ?_
          refine Sl.nil ?_
          refine At.weak [(0, _), (2, _), (4, _), (14, _), (15, _), (16, _), (85, _)] ⟨rfl, rfl, rfl, rfl, rfl, rfl, rfl, trivial⟩ ?_
          refine At.go ?_
          refine Sc.seq ?_
          refine Sc.draw 12 (fun H => Vw i64 H o c xs) [9] [0, 1, 2, 3, 4, 5, 6, 7, 8, 9, 10, 11] mixed (by kernel_rfl) (hz.1.vw) ?_
          refine Sx.calm rfl rfl (Cm.move rfl) rfl ?_
          refine Sx.calm rfl rfl (Cm.move rfl) rfl ?_
          refine Sx.calm rfl rfl (Cm.move rfl) rfl ?_
          refine Sx.calm rfl rfl (Cm.indexAddr1 sl37 rfl rfl (by rw [← hxl]; exact hz.1.vw.non) (by omega)) rfl ?_
          refine Sx.calm rfl rfl (Cm.load sca3 rfl (fun H (hH : Vw i64 H o c xs) => hH.gz 0 m rfl (by omega))) rfl ?_
          refine Sx.calm rfl rfl (Cm.move rfl) rfl ?_
          refine Sx.calm rfl rfl (Cm.move rfl) rfl ?_
          refine Sx.calm rfl rfl (Cm.indexAddr1 sl37 rfl rfl (by rw [← hxl]; exact hz.1.vw.non) (by omega)) rfl ?_
          refine Sx.calm rfl rfl (Cm.load sca3 rfl (fun H (hH : Vw i64 H o c xs) => hH.gz 0 q rfl (by omega))) rfl ?_
          refine Sx.eff rfl rfl (Sl.callC hC.fn rfl rfl (hC.call _ (xs.getD m 0) (xs.getD q 0) (hz.draws 1).2.2 (hVx m (by omega)) (hVx q (by omega))) rfl ?_)
          intro v5 w5 hr5
          obtain ⟨rfl, hf5⟩ := hr5
          have hz5 : StI W0 o c n xs w5 := (hz.draws 1).grow hf5
          refine Sx.on (by exact hz5.1.vw) ?_
          refine Sx.fork rfl rfl (Cm.lss rfl rfl) rfl (fun h102 => ?_) (fun h102 => ?_)
          ·
            refine Sx.calm rfl rfl (Cm.not rfl) rfl ?_
            refine Sx.nil ?_
            refine At.weak [(0, _), (2, _), (4, _), (14, _), (15, _), (16, _), (85, _), (103, _)] ⟨rfl, rfl, rfl, rfl, rfl, rfl, rfl, rfl, trivial⟩ ?_
            refine At.go ?_
            refine Sc.cond_f rfl ?_
            refine Sc.region ?_
            refine Sl.calm (Cm.move rfl) rfl ?_
            refine Sl.calm (Cm.assign rfl) rfl ?_
            refine Sl.nil ?_
            refine At.block_normal ?_
            first
              | exact At.again ⟨i, q⟩ ⟨rfl, rfl, rfl, rfl, rfl, trivial⟩ ⟨⟨by omega, by omega, by omega⟩, hz5, g1, fun _ => ltS_yes h102⟩ (by show q - i < j - i; omega)
              | exact At.again ⟨q + 1, j⟩ ⟨rfl, rfl, rfl, rfl, rfl, trivial⟩ ⟨⟨by omega, by omega, by omega⟩, hz5, fun _ => ltS_no (h3 q m (by omega) (by omega) (Nat.le_refl _) hmb) h102, g2⟩ (by show j - (q + 1) < j - i; omega)
          ·
            refine Sx.calm rfl rfl (Cm.not rfl) rfl ?_
            refine Sx.nil ?_
            refine At.weak [(0, _), (2, _), (4, _), (14, _), (15, _), (16, _), (85, _), (103, _)] ⟨rfl, rfl, rfl, rfl, rfl, rfl, rfl, rfl, trivial⟩ ?_
            refine At.go ?_
            refine Sc.cond_t rfl ?_
            refine Sc.region ?_
            refine Sl.calm (Cm.move rfl) rfl ?_
            refine Sl.calm (Cm.add64 rfl rfl (by omega)) rfl ?_
            refine Sl.calm (Cm.assign rfl) rfl ?_
            refine Sl.nil ?_
            refine At.block_normal ?_
            first
              | exact At.again ⟨i, q⟩ ⟨rfl, rfl, rfl, rfl, rfl, trivial⟩ ⟨⟨by omega, by omega, by omega⟩, hz5, g1, fun _ => ltS_yes h102⟩ (by show q - i < j - i; omega)
              | exact At.again ⟨q + 1, j⟩ ⟨rfl, rfl, rfl, rfl, rfl, trivial⟩ ⟨⟨by omega, by omega, by omega⟩, hz5, fun _ => ltS_no (h3 q m (by omega) (by omega) (Nat.le_refl _) hmb) h102, g2⟩ (by show j - (q + 1) < j - i; omega)
        ·
          have hije : i = j := by omega
          subst hije
          refine Sl.nil ?_
          refine At.weak [(0, _), (2, _), (4, _), (14, _), (15, _), (85, _)] ⟨rfl, rfl, rfl, rfl, rfl, rfl, trivial⟩ ?_
          refine At.go ?_
          refine Sc.cond_f rfl ?_
          refine Sc.exit ?_
          refine At.then_exit ?_
          refine At.then_exit ?_
          refine At.block_hit ?_
          refine At.go ?_
          refine Sc.seq ?_
          refine Sc.seq ?_
          refine Sc.region ?_
          refine Sl.calm (Cm.move rfl) rfl ?_
          refine Sl.calm (Cm.assign rfl) rfl ?_
          refine Sl.nil ?_
          refine At.weak [(0, _), (2, _), (4, _), (14, _), (15, _), (17, _), (85, _)] ⟨rfl, rfl, rfl, rfl, rfl, rfl, rfl, trivial⟩ ?_
          refine At.go ?_
          refine Sc.block ?_
          refine Sc.loop (β := Nat × List Int) (fun ⟨k, ys⟩ => [(0, .slice o n c), (14, .int .i64 i), (17, .int .i64 k)]) (fun ⟨k, ys⟩ w => (i ≤ k ∧ k ≤ m) ∧ StI W0 o c n ys w ∧ ys.Perm xs ∧ ∀ p, ys.getD p 0 = xs.getD (dx k m p) 0) (fun ⟨k, ys⟩ => k) ⟨m, xs⟩ ⟨rfl, rfl, rfl, trivial⟩ ⟨⟨by omega, Nat.le_refl _⟩, hz, List.Perm.refl _, fun p => by rw [dx_zero]⟩ ?_
          rintro ⟨k, ys⟩ w4 ⟨⟨k1, k2⟩, hy, hyp, hyk⟩
          refine Sc.seq ?_
          refine Sc.seq ?_
          refine Sc.region ?_
          refine Sl.calm (Cm.move rfl) rfl ?_
          refine Sl.calm (Cm.move rfl) rfl ?_
          refine Sl.fork (Cm.gtr rfl rfl) rfl (fun h110 => ?_) (fun h110 => ?_)
          ·
            have hyl := hy.2.1
            refine Sl.nil ?_
            refine At.weak [(0, _), (14, _), (17, _), (110, _)] ⟨rfl, rfl, rfl, rfl, trivial⟩ ?_
            refine At.go ?_
            refine Sc.cond_t rfl ?_
            refine Sc.skip ?_
            refine At.go ?_
            refine Sc.seq ?_
            refine Sc.block ?_
            refine Sc.drawZ 15 [9, 13] (fun H => Vw i64 H o c ys) [15, 17] [0, 1, 2, 3, 4, 5, 6, 7, 8, 9, 10, 11, 12, 13, 14] (.alt 15 [16] (.alt 17 [] .fin .stop) .stop) mixed (by kernel_rfl) (hy.1.vw) ?_
            refine Sz.calm rfl rfl (Cm.move rfl) rfl ?_
            refine Sz.calm rfl rfl (Cm.move rfl) rfl ?_
            refine Sz.calm rfl rfl (Cm.move rfl) rfl ?_
            refine Sz.calm rfl rfl (Cm.move rfl) rfl ?_
            refine Sz.calm rfl rfl (Cm.sub64 rfl rfl (by omega)) rfl ?_
            refine Sz.calm rfl rfl (Cm.move rfl) rfl ?_
            refine Sz.calm rfl rfl (Cm.move rfl) rfl ?_
            refine Sz.calm rfl rfl (Cm.sub64 rfl rfl (by omega)) rfl ?_
            refine Sz.calm rfl rfl (Cm.indexAddr1 sl37 rfl rfl (by rw [← hy.2.1]; exact hy.1.vw.non) (by omega)) rfl ?_
            refine Sz.calm rfl rfl (Cm.load sca3 rfl (fun H (hH : Vw i64 H o c ys) => hH.gz 0 (k - 1) (by omega) (by omega))) rfl ?_
            refine Sz.calm rfl rfl (Cm.move rfl) rfl ?_
            refine Sz.calm rfl rfl (Cm.move rfl) rfl ?_
            refine Sz.calm rfl rfl (Cm.indexAddr1 sl37 rfl rfl (by rw [← hy.2.1]; exact hy.1.vw.non) (by omega)) rfl ?_
            refine Sz.calm rfl rfl (Cm.load sca3 rfl (fun H (hH : Vw i64 H o c ys) => hH.gz 0 k rfl (by omega))) rfl ?_
            refine Sz.calm rfl rfl (Cm.indexAddr1 sl37 rfl rfl (by rw [← hy.2.1]; exact hy.1.vw.non) (by omega)) rfl ?_
            refine Sz.alt ?_ ?_
            ·
              refine Sz.eff rfl rfl (Sl.storeRow i64_oneS sca3 (z := (k : Int)) (u := ys.getD (k - 1) 0) rfl rfl (hy.draws 1).1 (by omega) ?_)
              intro w6 ho6 hs6 hf6
              refine Sz.off rfl ?_
              refine Sz.calm rfl rfl (Cm.indexAddr1 sl37 rfl rfl (by rw [← hy.2.1]; exact hy.1.vw.non) (by omega)) rfl ?_
              refine Sz.alt ?_ ?_
              ·
                refine Sz.eff rfl rfl (Sl.storeRow i64_oneS sca3 (z := (k : Int) - 1) (u := ys.getD k 0) rfl rfl ho6 (by rw [List.length_set]; omega) ?_)
                intro w7 ho7 hs7 hf7
                have e2 : ((k : Int) - 1).toNat = k - 1 := by omega
                rw [e2] at ho7
                refine Sz.off rfl ?_
                refine Sz.nil ?_
                refine At.block_normal ?_
                refine At.weak [(0, _), (14, _), (17, _), (110, _)] ⟨rfl, rfl, rfl, rfl, trivial⟩ ?_
                refine At.go ?_
                refine Sc.region ?_
                refine Sl.calm (Cm.move rfl) rfl ?_
                refine Sl.calm (Cm.sub64 rfl rfl (by omega)) rfl ?_
                refine Sl.calm (Cm.assign rfl) rfl ?_
                refine Sl.nil ?_
                exact At.again ⟨k - 1, swapL ys k (k - 1)⟩ ⟨rfl, rfl, congrArg (fun z : Int => some (Value.int .i64 z)) (by omega), trivial⟩ ⟨⟨by omega, by omega⟩, ⟨ho7, by rw [swap_len]; exact hyl, ((hy.2.2.draws 1).trans hf6).trans hf7⟩, (swap_perm (by omega) (by omega)).trans hyp, fun p => by have e := dx_succ (k := k - 1) (m := m) (p := p) (by omega); rw [show k - 1 + 1 = k by omega] at e; rw [gd_swap (by omega) (by omega), hyk, e]⟩ (by show k - 1 < k; omega)
              exact Sz.stop
            exact Sz.stop
          ·
            have hke : k = i := by omega
            refine Sl.nil ?_
            refine At.weak [(0, _), (14, _), (17, _), (110, _)] ⟨rfl, rfl, rfl, rfl, trivial⟩ ?_
            refine At.go ?_
            refine Sc.cond_f rfl ?_
            refine Sc.exit ?_
            refine At.then_exit ?_
            refine At.then_exit ?_
            refine At.block_hit ?_
            refine At.go ?_
            refine Sc.ret ?_
            refine At.then_ret ?_
            refine At.ret0 rfl ?_
            have hbm : b = m + 1 := by omega
            rw [hke] at hyk
            refine ⟨_, rfl, rfl, ys, hy, seg_of hyp hyk (fun p hp => by have := dx_spec i m p; omega) (fun p p1 p2 => by have := dx_spec i m p; omega), ?_⟩
            rw [hbm]
            exact dn_srt h1 i1 i3 g1 g2 hyk
      ·
        refine Sl.nil ?_
        refine At.weak [(0, _), (1, _), (2, _), (3, _), (4, _), (28, _), (80, _)] ⟨rfl, rfl, rfl, rfl, rfl, rfl, rfl, trivial⟩ ?_
        refine At.go ?_
        refine Sc.cond_f rfl ?_
        refine Sc.skip ?_
        refine At.go ?_
        refine Sc.seq ?_
        refine Sc.region ?_
        refine Sl.calm (Cm.move rfl) rfl ?_
        refine Sl.calm (Cm.move rfl) rfl ?_
        refine Sl.calm (Cm.add64 rfl rfl (by omega)) rfl ?_
        refine Sl.calm (Cm.convI_in (n := ((a : Int) + b)) is3 ty83 rfl (wrapU (by omega))) rfl ?_
        refine Sl.calm (Cm.shrU rfl rfl (by decide)) rfl ?_
        refine Sl.calm (Cm.convI_in (n := (((a + b) / 2 : Nat) : Int)) is83 ty3 rfl (halfI (by omega))) rfl ?_
        obtain ⟨md, hmd⟩ : ∃ md : Nat, md = (a + b) / 2 := ⟨_, rfl⟩
        rw [← hmd]
        refine Sl.calm (Cm.assign rfl) rfl ?_
        refine Sl.nil ?_
        refine At.weak [(0, _), (1, _), (2, _), (3, _), (4, _), (18, _), (28, _), (80, _)] ⟨rfl, rfl, rfl, rfl, rfl, rfl, rfl, rfl, trivial⟩ ?_
        refine At.go ?_
        refine Sc.seq ?_
        refine Sc.region ?_
        refine Sl.calm (Cm.move rfl) rfl ?_
        refine Sl.calm (Cm.move rfl) rfl ?_
        refine Sl.calm (Cm.add64 rfl rfl (by omega)) rfl ?_
        refine Sl.calm (Cm.assign rfl) rfl ?_
        refine Sl.nil ?_
        refine At.weak [(0, _), (1, _), (2, _), (3, _), (4, _), (18, _), (19, _), (28, _), (80, _)] ⟨rfl, rfl, rfl, rfl, rfl, rfl, rfl, rfl, rfl, trivial⟩ ?_
        refine At.go ?_
        refine Sc.seq ?_
        refine Sc.region ?_
        refine Sl.calm (Cm.assign rfl) rfl ?_
        refine Sl.calm (Cm.assign rfl) rfl ?_
        refine Sl.nil ?_
        refine At.go ?_
        refine Sc.cut (β := Nat × Nat) (fun ⟨S0, R0⟩ => [(0, .slice o n c), (1, .int .i64 a), (2, .int .i64 m), (3, .int .i64 b), (4, .func (.func f) #[] cs.toArray), (18, .int .i64 md), (19, .int .i64 ((md : Int) + m)), (20, .int .i64 S0), (21, .int .i64 R0)]) (fun ⟨S0, R0⟩ w => ((md < m ∧ S0 = md + m - b ∧ R0 = md) ∨ (¬ md < m ∧ S0 = a ∧ R0 = m)) ∧ w = W) ?_ ?_
        ·
          refine Sc.seq ?_
          refine Sc.region ?_
          refine Sl.calm (Cm.move rfl) rfl ?_
          refine Sl.calm (Cm.move rfl) rfl ?_
          refine Sl.fork (Cm.gtr rfl rfl) rfl (fun h140 => ?_) (fun h140 => ?_)
          ·
            refine Sl.nil ?_
            refine At.weak [(0, _), (1, _), (2, _), (3, _), (4, _), (18, _), (19, _), (20, _), (21, _), (28, _), (80, _), (140, _)] ⟨rfl, rfl, rfl, rfl, rfl, rfl, rfl, rfl, rfl, rfl, rfl, rfl, trivial⟩ ?_
            refine At.go ?_
            refine Sc.cond_t rfl ?_
            refine Sc.seq ?_
            refine Sc.region ?_
            refine Sl.calm (Cm.move rfl) rfl ?_
            refine Sl.calm (Cm.move rfl) rfl ?_
            refine Sl.calm (Cm.sub64 rfl rfl (by omega)) rfl ?_
            refine Sl.calm (Cm.assign rfl) rfl ?_
            refine Sl.nil ?_
            refine At.weak [(0, _), (1, _), (2, _), (3, _), (4, _), (18, _), (19, _), (20, _), (21, _), (28, _), (80, _), (140, _)] ⟨rfl, rfl, rfl, rfl, rfl, rfl, rfl, rfl, rfl, rfl, rfl, rfl, trivial⟩ ?_
            refine At.go ?_
            refine Sc.region ?_
            refine Sl.calm (Cm.move rfl) rfl ?_
            refine Sl.calm (Cm.assign rfl) rfl ?_
            refine Sl.nil ?_
            first
              | exact At.cut ⟨md + m - b, md⟩ ⟨rfl, rfl, rfl, rfl, rfl, rfl, rfl, congrArg (fun z : Int => some (Value.int .i64 z)) (by omega), rfl, trivial⟩ ⟨.inl ⟨by omega, rfl, rfl⟩, rfl⟩
              | exact At.cut ⟨a, m⟩ ⟨rfl, rfl, rfl, rfl, rfl, rfl, rfl, rfl, rfl, trivial⟩ ⟨.inr ⟨by omega, rfl, rfl⟩, rfl⟩
          ·
            refine Sl.nil ?_
            refine At.weak [(0, _), (1, _), (2, _), (3, _), (4, _), (18, _), (19, _), (20, _), (21, _), (28, _), (80, _), (140, _)] ⟨rfl, rfl, rfl, rfl, rfl, rfl, rfl, rfl, rfl, rfl, rfl, rfl, trivial⟩ ?_
            refine At.go ?_
            refine Sc.cond_f rfl ?_
            refine Sc.seq ?_
            refine Sc.region ?_
            refine Sl.calm (Cm.move rfl) rfl ?_
            refine Sl.calm (Cm.assign rfl) rfl ?_
            refine Sl.nil ?_
            refine At.weak [(0, _), (1, _), (2, _), (3, _), (4, _), (18, _), (19, _), (20, _), (21, _), (28, _), (80, _), (140, _)] ⟨rfl, rfl, rfl, rfl, rfl, rfl, rfl, rfl, rfl, rfl, rfl, rfl, trivial⟩ ?_
            refine At.go ?_
            refine Sc.region ?_
            refine Sl.calm (Cm.move rfl) rfl ?_
            refine Sl.calm (Cm.assign rfl) rfl ?_
            refine Sl.nil ?_
            first
              | exact At.cut ⟨md + m - b, md⟩ ⟨rfl, rfl, rfl, rfl, rfl, rfl, rfl, congrArg (fun z : Int => some (Value.int .i64 z)) (by omega), rfl, trivial⟩ ⟨.inl ⟨by omega, rfl, rfl⟩, rfl⟩
              | exact At.cut ⟨a, m⟩ ⟨rfl, rfl, rfl, rfl, rfl, rfl, rfl, rfl, rfl, trivial⟩ ⟨.inr ⟨by omega, rfl, rfl⟩, rfl⟩
        ·
          rintro ⟨S0, R0⟩ wq ⟨hSR, hwq⟩
          subst wq
          refine Sc.seq ?_
          refine Sc.region ?_
          refine Sl.calm (Cm.move rfl) rfl ?_
          refine Sl.calm (Cm.sub64 rfl rfl (by omega)) rfl ?_
          refine Sl.calm (Cm.assign rfl) rfl ?_
          refine Sl.nil ?_
          refine At.weak [(0, _), (1, _), (2, _), (3, _), (4, _), (18, _), (19, _), (20, _), (21, _), (22, _)] ⟨rfl, rfl, rfl, rfl, rfl, rfl, rfl, rfl, rfl, rfl, trivial⟩ ?_
          refine At.go ?_
          refine Sc.seq ?_
          refine Sc.block ?_
          refine Sc.loop (β := Nat × Nat) (fun ⟨s, r⟩ => [(0, .slice o n c), (1, .int .i64 a), (2, .int .i64 m), (3, .int .i64 b), (4, .func (.func f) #[] cs.toArray), (18, .int .i64 md), (19, .int .i64 ((md : Int) + m)), (20, .int .i64 s), (21, .int .i64 r), (22, .int .i64 ((md : Int) + m - 1))]) (fun ⟨s, r⟩ w => S0 ≤ s ∧ s ≤ r ∧ r ≤ R0 ∧ StI W0 o c n xs w ∧ (S0 < s → ltS K (xs.getD (s - 1) 0) (xs.getD (md + m - s) 0)) ∧ (r < R0 → ltS K (xs.getD (md + m - 1 - r) 0) (xs.getD r 0))) (fun ⟨s, r⟩ => r - s) ⟨S0, R0⟩ ⟨rfl, rfl, rfl, rfl, rfl, rfl, rfl, rfl, rfl, rfl, trivial⟩ ⟨Nat.le_refl _, by omega, Nat.le_refl _, h, fun h => by omega, fun h => by omega⟩ ?_
          rintro ⟨s, r⟩ w4 ⟨hs0, hsr0, hrR, hz, g1, g2⟩
          refine Sc.seq ?_
          refine Sc.seq ?_
          refine Sc.region ?_
          refine Sl.calm (Cm.move rfl) rfl ?_
          refine Sl.calm (Cm.move rfl) rfl ?_
          refine Sl.fork (Cm.lss rfl rfl) rfl (fun h151 => ?_) (fun h151 => ?_)
          ·
            have hsr : s < r := by omega
            refine Sl.nil ?_
            refine At.weak [(0, _), (1, _), (2, _), (3, _), (4, _), (18, _), (19, _), (20, _), (21, _), (22, _), (151, _)] ⟨rfl, rfl, rfl, rfl, rfl, rfl, rfl, rfl, rfl, rfl, rfl, trivial⟩ ?_
            refine At.go ?_
            refine Sc.cond_t rfl ?_
            refine Sc.skip ?_
            refine At.go ?_
            refine Sc.block ?_
            refine Sc.seq ?_
            refine Sc.region ?_
            refine Sl.calm (Cm.move rfl) rfl ?_
            refine Sl.calm (Cm.move rfl) rfl ?_
            refine Sl.calm (Cm.add64 rfl rfl (by omega)) rfl ?_
            refine Sl.calm (Cm.convI_in (n := ((s : Int) + r)) is3 ty83 rfl (wrapU (by omega))) rfl ?_
            refine Sl.calm (Cm.shrU rfl rfl (by decide)) rfl ?_
            refine Sl.calm (Cm.convI_in (n := (((s + r) / 2 : Nat) : Int)) is83 ty3 rfl (halfI (by omega))) rfl ?_
            obtain ⟨q, hq⟩ : ∃ q : Nat, q = (s + r) / 2 := ⟨_, rfl⟩
            rw [← hq]
            have hqa : a ≤ q ∧ q < m ∧ m ≤ md + m - 1 - q ∧ md + m - 1 - q < b ∧ q ≤ md + m - 1 := by omega
            refine Sl.calm (Cm.assign rfl) rfl ?_
            refine Sl.nil ?_
            refine At.weak [(0, _), (1, _), (2, _), (3, _), (4, _), (18, _), (19, _), (20, _), (21, _), (22, _), (23, _), (151, _)] ⟨rfl, rfl, rfl, rfl, rfl, rfl, rfl, rfl, rfl, rfl, rfl, rfl, trivial⟩ ?_
            refine At.go ?_
            refine Sc.seq ?_
            refine Sc.draw 14 (fun H => Vw i64 H o c xs) [11] [0, 1, 2, 3, 4, 5, 6, 7, 8, 9, 10, 11, 12, 13] mixed (by kernel_rfl) (hz.1.vw) ?_
            refine Sx.calm rfl rfl (Cm.move rfl) rfl ?_
            refine Sx.calm rfl rfl (Cm.move rfl) rfl ?_
            refine Sx.calm rfl rfl (Cm.move rfl) rfl ?_
            refine Sx.calm rfl rfl (Cm.move rfl) rfl ?_
            refine Sx.calm rfl rfl (Cm.sub64 rfl rfl (by omega)) rfl ?_
            refine Sx.calm rfl rfl (Cm.indexAddr1 sl37 rfl rfl (by rw [← hxl]; exact hz.1.vw.non) (by omega)) rfl ?_
            refine Sx.calm rfl rfl (Cm.load sca3 rfl (fun H (hH : Vw i64 H o c xs) => hH.gz 0 (md + m - 1 - q) (by omega) (by omega))) rfl ?_
            refine Sx.calm rfl rfl (Cm.move rfl) rfl ?_
            refine Sx.calm rfl rfl (Cm.move rfl) rfl ?_
            refine Sx.calm rfl rfl (Cm.indexAddr1 sl37 rfl rfl (by rw [← hxl]; exact hz.1.vw.non) (by omega)) rfl ?_
            refine Sx.calm rfl rfl (Cm.load sca3 rfl (fun H (hH : Vw i64 H o c xs) => hH.gz 0 q rfl (by omega))) rfl ?_
            refine Sx.eff rfl rfl (Sl.callC hC.fn rfl rfl (hC.call _ (xs.getD (md + m - 1 - q) 0) (xs.getD q 0) (hz.draws 1).2.2 (hVx _ (by omega)) (hVx q (by omega))) rfl ?_)
            intro v5 w5 hr5
            obtain ⟨rfl, hf5⟩ := hr5
            have hz5 : StI W0 o c n xs w5 := (hz.draws 1).grow hf5
            refine Sx.on (by exact hz5.1.vw) ?_
            refine Sx.fork rfl rfl (Cm.lss rfl rfl) rfl (fun h170 => ?_) (fun h170 => ?_)
            ·
              refine Sx.calm rfl rfl (Cm.not rfl) rfl ?_
              refine Sx.nil ?_
              refine At.weak [(0, _), (1, _), (2, _), (3, _), (4, _), (18, _), (19, _), (20, _), (21, _), (22, _), (23, _), (151, _), (171, _)] ⟨rfl, rfl, rfl, rfl, rfl, rfl, rfl, rfl, rfl, rfl, rfl, rfl, rfl, trivial⟩ ?_
              refine At.go ?_
              refine Sc.cond_f rfl ?_
              refine Sc.region ?_
              refine Sl.calm (Cm.move rfl) rfl ?_
              refine Sl.calm (Cm.assign rfl) rfl ?_
              refine Sl.nil ?_
              refine At.block_normal ?_
              first
                | exact At.again ⟨s, q⟩ ⟨rfl, rfl, rfl, rfl, rfl, rfl, rfl, rfl, rfl, rfl, trivial⟩ ⟨hs0, by omega, by omega, hz5, g1, fun _ => ltS_yes h170⟩ (by show q - s < r - s; omega)
                | exact At.again ⟨q + 1, r⟩ ⟨rfl, rfl, rfl, rfl, rfl, rfl, rfl, rfl, rfl, rfl, trivial⟩ ⟨by omega, by omega, hrR, hz5, fun _ => by rw [show md + m - (q + 1) = md + m - 1 - q by omega, Nat.add_sub_cancel]; exact ltS_no (h3 q (md + m - 1 - q) (by omega) (by omega) (by omega) (by omega)) h170, g2⟩ (by show r - (q + 1) < r - s; omega)
            ·
              refine Sx.calm rfl rfl (Cm.not rfl) rfl ?_
              refine Sx.nil ?_
              refine At.weak [(0, _), (1, _), (2, _), (3, _), (4, _), (18, _), (19, _), (20, _), (21, _), (22, _), (23, _), (151, _), (171, _)] ⟨rfl, rfl, rfl, rfl, rfl, rfl, rfl, rfl, rfl, rfl, rfl, rfl, rfl, trivial⟩ ?_
              refine At.go ?_
              refine Sc.cond_t rfl ?_
              refine Sc.region ?_
              refine Sl.calm (Cm.move rfl) rfl ?_
              refine Sl.calm (Cm.add64 rfl rfl (by omega)) rfl ?_
              refine Sl.calm (Cm.assign rfl) rfl ?_
              refine Sl.nil ?_
              refine At.block_normal ?_
              first
                | exact At.again ⟨s, q⟩ ⟨rfl, rfl, rfl, rfl, rfl, rfl, rfl, rfl, rfl, rfl, trivial⟩ ⟨hs0, by omega, by omega, hz5, g1, fun _ => ltS_yes h170⟩ (by show q - s < r - s; omega)
                | exact At.again ⟨q + 1, r⟩ ⟨rfl, rfl, rfl, rfl, rfl, rfl, rfl, rfl, rfl, rfl, trivial⟩ ⟨by omega, by omega, hrR, hz5, fun _ => by rw [show md + m - (q + 1) = md + m - 1 - q by omega, Nat.add_sub_cancel]; exact ltS_no (h3 q (md + m - 1 - q) (by omega) (by omega) (by omega) (by omega)) h170, g2⟩ (by show r - (q + 1) < r - s; omega)
          ·
            have hsre : s = r := by omega
            subst hsre
            have hcut := cut_of ham hmb hmd h1 h2 hSR hs0 hrR g1 g2
            obtain ⟨e, he⟩ : ∃ e : Nat, e = md + m - s := ⟨_, rfl⟩
            rw [← he] at hcut
            refine Sl.nil ?_
            refine At.weak [(0, _), (1, _), (2, _), (3, _), (4, _), (18, _), (19, _), (20, _), (21, _), (22, _), (151, _)] ⟨rfl, rfl, rfl, rfl, rfl, rfl, rfl, rfl, rfl, rfl, rfl, trivial⟩ ?_
            refine At.go ?_
            refine Sc.cond_f rfl ?_
            refine Sc.exit ?_
            refine At.then_exit ?_
            refine At.then_exit ?_
            refine At.block_hit ?_
            refine At.go ?_
            refine Sc.seq ?_
            obtain ⟨wz, hwz⟩ : ∃ wz, wz = w4 := ⟨_, rfl⟩
            rw [← hwz] at hz ⊢
            refine Sc.region ?_
            refine Sl.calm (Cm.move rfl) rfl ?_
            refine Sl.calm (Cm.move rfl) rfl ?_
            refine Sl.calm (Cm.ofEq (u := .int .i64 (e : Nat)) (Cm.sub64 rfl rfl (by omega)) (by congr 1; omega)) rfl ?_
            refine Sl.calm (Cm.assign rfl) rfl ?_
            refine Sl.nil ?_
            refine At.weak [(0, _), (1, _), (2, _), (3, _), (4, _), (18, _), (19, _), (20, _), (21, _), (22, _), (24, _), (151, _)] ⟨rfl, rfl, rfl, rfl, rfl, rfl, rfl, rfl, rfl, rfl, rfl, rfl, trivial⟩ ?_
            refine At.go ?_
            refine Sc.cut (β := List Int) (fun ys => [(0, .slice o n c), (1, .int .i64 a), (3, .int .i64 b), (4, .func (.func f) #[] cs.toArray), (18, .int .i64 md), (20, .int .i64 s), (24, .int .i64 e)]) (fun ys w => StI W0 o c n ys w ∧ ys.Perm xs ∧ ∀ k, ys.getD k 0 = xs.getD (rx s m e k) 0) ?_ ?_
            ·
              refine Sc.seq ?_
              refine Sc.region ?_
              refine Sl.calm (Cm.move rfl) rfl ?_
              refine Sl.calm (Cm.move rfl) rfl ?_
              refine Sl.fork (Cm.lss rfl rfl) rfl (fun h180 => ?_) (fun h180 => ?_)
              ·
                refine Sl.calm (Cm.move rfl) rfl ?_
                refine Sl.want rfl rfl (Cm.move rfl) rfl ?_
                refine Sl.want rfl rfl (Cm.move rfl) rfl ?_
                refine Sl.forkWant rfl rfl (Cm.lss rfl rfl) rfl (fun h184 => ?_) (fun h184 => ?_)
                ·
                  refine Sl.calm (Cm.pick_t rfl rfl) rfl ?_
                  refine Sl.nil ?_
                  refine At.weak [(0, _), (1, _), (2, _), (3, _), (4, _), (18, _), (19, _), (20, _), (21, _), (22, _), (24, _), (151, _), (185, _)] ⟨rfl, rfl, rfl, rfl, rfl, rfl, rfl, rfl, rfl, rfl, rfl, rfl, rfl, trivial⟩ ?_
                  refine At.go ?_
                  refine Sc.cond_t rfl ?_
                  refine Sc.region ?_
                  refine Sl.calm (Cm.move rfl) rfl ?_
                  refine Sl.calm (Cm.move rfl) rfl ?_
                  refine Sl.calm (Cm.move rfl) rfl ?_
                  refine Sl.calm (Cm.move rfl) rfl ?_
                  refine Sl.calm (Cm.move rfl) rfl ?_
                  refine Sl.call fn89 rfl (rotate_ok W0 o c n s m e _ xs wz hz (by omega) (by omega) (by omega) hn) rfl ?_
                  rintro _ w6 ⟨rfl, ys, hy, hyp, hyk⟩
                  refine Sl.nil ?_
                  first
                    | exact At.cut ys ⟨rfl, rfl, rfl, rfl, rfl, rfl, rfl, trivial⟩ ⟨hy, hyp, hyk⟩
                    | exact At.cut xs ⟨rfl, rfl, rfl, rfl, rfl, rfl, rfl, trivial⟩ ⟨hz, List.Perm.refl _, fun k => by rw [rx_id hcut.hsm hcut.hme (by omega)]⟩
                ·
                  refine Sl.calm (Cm.pick_t rfl rfl) rfl ?_
                  refine Sl.nil ?_
                  refine At.weak [(0, _), (1, _), (2, _), (3, _), (4, _), (18, _), (19, _), (20, _), (21, _), (22, _), (24, _), (151, _), (185, _)] ⟨rfl, rfl, rfl, rfl, rfl, rfl, rfl, rfl, rfl, rfl, rfl, rfl, rfl, trivial⟩ ?_
                  refine At.go ?_
                  refine Sc.cond_f rfl ?_
                  refine Sc.skip ?_
                  first
                    | exact At.cut ys ⟨rfl, rfl, rfl, rfl, rfl, rfl, rfl, trivial⟩ ⟨hy, hyp, hyk⟩
                    | exact At.cut xs ⟨rfl, rfl, rfl, rfl, rfl, rfl, rfl, trivial⟩ ⟨hz, List.Perm.refl _, fun k => by rw [rx_id hcut.hsm hcut.hme (by omega)]⟩
              ·
                refine Sl.calm (Cm.move rfl) rfl ?_
                refine Sl.skip rfl rfl rfl rfl ?_
                refine Sl.skip rfl rfl rfl rfl ?_
                refine Sl.skip rfl rfl rfl rfl ?_
                refine Sl.calm (Cm.pick_f rfl rfl) rfl ?_
                refine Sl.nil ?_
                refine At.weak [(0, _), (1, _), (2, _), (3, _), (4, _), (18, _), (19, _), (20, _), (21, _), (22, _), (24, _), (151, _), (185, _)] ⟨rfl, rfl, rfl, rfl, rfl, rfl, rfl, rfl, rfl, rfl, rfl, rfl, rfl, trivial⟩ ?_
                refine At.go ?_
                refine Sc.cond_f rfl ?_
                refine Sc.skip ?_
                first
                  | exact At.cut ys ⟨rfl, rfl, rfl, rfl, rfl, rfl, rfl, trivial⟩ ⟨hy, hyp, hyk⟩
                  | exact At.cut xs ⟨rfl, rfl, rfl, rfl, rfl, rfl, rfl, trivial⟩ ⟨hz, List.Perm.refl _, fun k => by rw [rx_id hcut.hsm hcut.hme (by omega)]⟩
            ·
              rintro ys w7 ⟨hy, hyp, hyk⟩
              obtain ⟨q1, q2, q3, q4, q5, q6, q7⟩ := hcut.halves h1 h2 h3 hyk
              have c1 := hcut.has
              have c2 := hcut.hsm
              have c3 := hcut.hme
              have c4 := hcut.heb
              have c5 := hcut.hmd
              refine Sc.cut (β := List Int) (fun zs => [(0, .slice o n c), (3, .int .i64 b), (4, .func (.func f) #[] cs.toArray), (18, .int .i64 md), (24, .int .i64 e)]) (fun zs w => StI W0 o c n zs w ∧ Seg ys zs a md ∧ Srt K zs a md) ?_ ?_
              ·
                refine Sc.seq ?_
                refine Sc.region ?_
                refine Sl.calm (Cm.move rfl) rfl ?_
                refine Sl.calm (Cm.move rfl) rfl ?_
                refine Sl.fork (Cm.lss rfl rfl) rfl (fun h194 => ?_) (fun h194 => ?_)
                ·
                  refine Sl.calm (Cm.move rfl) rfl ?_
                  refine Sl.want rfl rfl (Cm.move rfl) rfl ?_
                  refine Sl.want rfl rfl (Cm.move rfl) rfl ?_
                  refine Sl.forkWant rfl rfl (Cm.lss rfl rfl) rfl (fun h198 => ?_) (fun h198 => ?_)
                  ·
                    refine Sl.calm (Cm.pick_t rfl rfl) rfl ?_
                    refine Sl.nil ?_
                    refine At.weak [(0, _), (1, _), (3, _), (4, _), (18, _), (20, _), (24, _), (199, _)] ⟨rfl, rfl, rfl, rfl, rfl, rfl, rfl, rfl, trivial⟩ ?_
                    refine At.go ?_
                    refine Sc.cond_t rfl ?_
                    refine Sc.region ?_
                    refine Sl.calm (Cm.move rfl) rfl ?_
                    refine Sl.calm (Cm.move rfl) rfl ?_
                    refine Sl.calm (Cm.move rfl) rfl ?_
                    refine Sl.calm (Cm.move rfl) rfl ?_
                    refine Sl.calm (Cm.move rfl) rfl ?_
                    refine Sl.call fn74 rfl (ih a s md ys w7 (by omega) hy (fun z hz => hV z (hyp.mem_iff.1 hz)) (by omega) (by omega) (by omega) q1 q2 q3) rfl ?_
                    rintro _ w8 ⟨rfl, zs, hz, hzg, hzs⟩
                    refine Sl.nil ?_
                    first
                      | exact At.cut zs ⟨rfl, rfl, rfl, rfl, rfl, trivial⟩ ⟨hz, hzg, hzs⟩
                      | exact At.cut ys ⟨rfl, rfl, rfl, rfl, rfl, trivial⟩ ⟨hy, Seg.refl _ _ _, by rw [show s = a by omega] at q2; exact q2⟩
                      | exact At.cut ys ⟨rfl, rfl, rfl, rfl, rfl, trivial⟩ ⟨hy, Seg.refl _ _ _, by rw [show s = md by omega] at q1; exact q1⟩
                  ·
                    refine Sl.calm (Cm.pick_t rfl rfl) rfl ?_
                    refine Sl.nil ?_
                    refine At.weak [(0, _), (1, _), (3, _), (4, _), (18, _), (20, _), (24, _), (199, _)] ⟨rfl, rfl, rfl, rfl, rfl, rfl, rfl, rfl, trivial⟩ ?_
                    refine At.go ?_
                    refine Sc.cond_f rfl ?_
                    refine Sc.skip ?_
                    first
                      | exact At.cut zs ⟨rfl, rfl, rfl, rfl, rfl, trivial⟩ ⟨hz, hzg, hzs⟩
                      | exact At.cut ys ⟨rfl, rfl, rfl, rfl, rfl, trivial⟩ ⟨hy, Seg.refl _ _ _, by rw [show s = a by omega] at q2; exact q2⟩
                      | exact At.cut ys ⟨rfl, rfl, rfl, rfl, rfl, trivial⟩ ⟨hy, Seg.refl _ _ _, by rw [show s = md by omega] at q1; exact q1⟩
                ·
                  refine Sl.calm (Cm.move rfl) rfl ?_
                  refine Sl.skip rfl rfl rfl rfl ?_
                  refine Sl.skip rfl rfl rfl rfl ?_
                  refine Sl.skip rfl rfl rfl rfl ?_
                  refine Sl.calm (Cm.pick_f rfl rfl) rfl ?_
                  refine Sl.nil ?_
                  refine At.weak [(0, _), (1, _), (3, _), (4, _), (18, _), (20, _), (24, _), (199, _)] ⟨rfl, rfl, rfl, rfl, rfl, rfl, rfl, rfl, trivial⟩ ?_
                  refine At.go ?_
                  refine Sc.cond_f rfl ?_
                  refine Sc.skip ?_
                  first
                    | exact At.cut zs ⟨rfl, rfl, rfl, rfl, rfl, trivial⟩ ⟨hz, hzg, hzs⟩
                    | exact At.cut ys ⟨rfl, rfl, rfl, rfl, rfl, trivial⟩ ⟨hy, Seg.refl _ _ _, by rw [show s = a by omega] at q2; exact q2⟩
                    | exact At.cut ys ⟨rfl, rfl, rfl, rfl, rfl, trivial⟩ ⟨hy, Seg.refl _ _ _, by rw [show s = md by omega] at q1; exact q1⟩
              ·
                rintro zs w9 ⟨hz, hzg, hzs⟩
                refine Sc.seq ?_
                refine Sc.region ?_
                refine Sl.calm (Cm.move rfl) rfl ?_
                refine Sl.calm (Cm.move rfl) rfl ?_
                refine Sl.fork (Cm.lss rfl rfl) rfl (fun h208 => ?_) (fun h208 => ?_)
                ·
                  refine Sl.calm (Cm.move rfl) rfl ?_
                  refine Sl.want rfl rfl (Cm.move rfl) rfl ?_
                  refine Sl.want rfl rfl (Cm.move rfl) rfl ?_
                  refine Sl.forkWant rfl rfl (Cm.lss rfl rfl) rfl (fun h212 => ?_) (fun h212 => ?_)
                  ·
                    refine Sl.calm (Cm.pick_t rfl rfl) rfl ?_
                    refine Sl.nil ?_
                    refine At.weak [(0, _), (3, _), (4, _), (18, _), (24, _), (213, _)] ⟨rfl, rfl, rfl, rfl, rfl, rfl, trivial⟩ ?_
                    refine At.go ?_
                    refine Sc.cond_t rfl ?_
                    refine Sc.region ?_
                    refine Sl.calm (Cm.move rfl) rfl ?_
                    refine Sl.calm (Cm.move rfl) rfl ?_
                    refine Sl.calm (Cm.move rfl) rfl ?_
                    refine Sl.calm (Cm.move rfl) rfl ?_
                    refine Sl.calm (Cm.move rfl) rfl ?_
                    refine Sl.call fn74 rfl (ih md e b zs w9 (by omega) hz (fun z hz => hV z (hyp.mem_iff.1 (hzg.2.1.mem_iff.1 hz))) (by omega) (by omega) (by omega) (srt_same q4 (fun k k1 k2 => hzg.2.2.1 k (.inr (by omega)))) (srt_same q5 (fun k k1 k2 => hzg.2.2.1 k (.inr (by omega)))) (stb_same q6 (by omega) (fun k k1 k2 => hzg.2.2.1 k (.inr (by omega))))) rfl ?_
                    rintro _ w10 ⟨rfl, us, hu, hug, hus⟩
                    refine Sl.nil ?_
                    refine At.end0 rfl ?_
                    have hmdb : a ≤ md ∧ md ≤ b := by omega
                    have hsy : Seg xs ys a b := seg_of hyp hyk (fun p hp => by have := rx_spec s m e p; omega) (fun p p1 p2 => by have := rx_spec s m e p; omega)
                    first
                      | exact ⟨_, rfl, rfl, us, hu, (hsy.trans (hzg.wide (Nat.le_refl _) hmdb.2)).trans (hug.wide hmdb.1 (Nat.le_refl _)), join_srt hmdb.1 hmdb.2 hzg hug hzs hus q7⟩
                      | exact ⟨_, rfl, rfl, zs, hz, hsy.trans (hzg.wide (Nat.le_refl _) hmdb.2), join_srt hmdb.1 hmdb.2 hzg (Seg.refl _ _ _) hzs (srt_same (ys := ys) (by first | (rw [show e = md by omega] at q5; exact q5) | (rw [show e = b by omega] at q4; exact q4)) (fun k k1 k2 => hzg.2.2.1 k (.inr k1))) q7⟩
                  ·
                    refine Sl.calm (Cm.pick_t rfl rfl) rfl ?_
                    refine Sl.nil ?_
                    refine At.weak [(0, _), (3, _), (4, _), (18, _), (24, _), (213, _)] ⟨rfl, rfl, rfl, rfl, rfl, rfl, trivial⟩ ?_
                    refine At.go ?_
                    refine Sc.cond_f rfl ?_
                    refine Sc.skip ?_
                    refine At.end0 rfl ?_
                    have hmdb : a ≤ md ∧ md ≤ b := by omega
                    have hsy : Seg xs ys a b := seg_of hyp hyk (fun p hp => by have := rx_spec s m e p; omega) (fun p p1 p2 => by have := rx_spec s m e p; omega)
                    first
                      | exact ⟨_, rfl, rfl, us, hu, (hsy.trans (hzg.wide (Nat.le_refl _) hmdb.2)).trans (hug.wide hmdb.1 (Nat.le_refl _)), join_srt hmdb.1 hmdb.2 hzg hug hzs hus q7⟩
                      | exact ⟨_, rfl, rfl, zs, hz, hsy.trans (hzg.wide (Nat.le_refl _) hmdb.2), join_srt hmdb.1 hmdb.2 hzg (Seg.refl _ _ _) hzs (srt_same (ys := ys) (by first | (rw [show e = md by omega] at q5; exact q5) | (rw [show e = b by omega] at q4; exact q4)) (fun k k1 k2 => hzg.2.2.1 k (.inr k1))) q7⟩
                ·
                  refine Sl.calm (Cm.move rfl) rfl ?_
                  refine Sl.skip rfl rfl rfl rfl ?_
                  refine Sl.skip rfl rfl rfl rfl ?_
                  refine Sl.skip rfl rfl rfl rfl ?_
                  refine Sl.calm (Cm.pick_f rfl rfl) rfl ?_
                  refine Sl.nil ?_
                  refine At.weak [(0, _), (3, _), (4, _), (18, _), (24, _), (213, _)] ⟨rfl, rfl, rfl, rfl, rfl, rfl, trivial⟩ ?_
                  refine At.go ?_
                  refine Sc.cond_f rfl ?_
                  refine Sc.skip ?_
                  refine At.end0 rfl ?_
                  have hmdb : a ≤ md ∧ md ≤ b := by omega
                  have hsy : Seg xs ys a b := seg_of hyp hyk (fun p hp => by have := rx_spec s m e p; omega) (fun p p1 p2 => by have := rx_spec s m e p; omega)
                  first
                    | exact ⟨_, rfl, rfl, us, hu, (hsy.trans (hzg.wide (Nat.le_refl _) hmdb.2)).trans (hug.wide hmdb.1 (Nat.le_refl _)), join_srt hmdb.1 hmdb.2 hzg hug hzs hus q7⟩
                    | exact ⟨_, rfl, rfl, zs, hz, hsy.trans (hzg.wide (Nat.le_refl _) hmdb.2), join_srt hmdb.1 hmdb.2 hzg (Seg.refl _ _ _) hzs (srt_same (ys := ys) (by first | (rw [show e = md by omega] at q5; exact q5) | (rw [show e = b by omega] at q4; exact q4)) (fun k k1 k2 => hzg.2.2.1 k (.inr k1))) q7⟩
end Go.Proofs.Ytpnfjfbfgaiolaa
/- slices.SortStableFunc over numbers. No condition beyond the bounds that each states. -/
namespace Go.Proofs.Ytpnfjfbfgaiolaa
open Go Go.RowKit
set_option linter.unusedVariables false

section
variable {K : Int → List (List UInt8)} {ys zs : List Int} {n : Nat}
/-- at each n-th place all that is ahead is less than all behind -/
def BI (bs n : Nat) (ys : List Int) : Prop := ∀ q i j : Nat, i < q * bs → q * bs ≤ j → j < n → ys.getD i 0 < ys.getD j 0
theorem Seg.bi {bs a b q : Nat} (h : Seg ys zs a b) (ha : a = q * bs) (hb : b ≤ a + bs) (hbn : b ≤ n) (g : BI bs n ys) : BI bs n zs := by
  intro p i j hi hj hjn
  obtain ⟨i', i1, i2⟩ : ∃ i', (i' = i ∧ ¬ (a ≤ i ∧ i < b) ∨ (a ≤ i ∧ i < b ∧ a ≤ i' ∧ i' < b)) ∧ zs.getD i 0 = ys.getD i' 0 := by
    by_cases k : a ≤ i ∧ i < b
    · obtain ⟨i', a1, a2, a3⟩ := h.2.2.2 i k.1 k.2
      exact ⟨i', .inr ⟨k.1, k.2, a1, a2⟩, a3⟩
    · exact ⟨i, .inl ⟨rfl, k⟩, h.2.2.1 i (by omega)⟩
  obtain ⟨j', j1, j2⟩ : ∃ j', (j' = j ∧ ¬ (a ≤ j ∧ j < b) ∨ (a ≤ j ∧ j < b ∧ a ≤ j' ∧ j' < b)) ∧ zs.getD j 0 = ys.getD j' 0 := by
    by_cases k : a ≤ j ∧ j < b
    · obtain ⟨j', a1, a2, a3⟩ := h.2.2.2 j k.1 k.2
      exact ⟨j', .inr ⟨k.1, k.2, a1, a2⟩, a3⟩
    · exact ⟨j, .inl ⟨rfl, k⟩, h.2.2.1 j (by omega)⟩
  rw [i2, j2]
  rcases Nat.lt_or_ge q p with hpq | hpq
  · have : (q + 1) * bs ≤ p * bs := Nat.mul_le_mul_right bs hpq
    rw [Nat.add_mul, Nat.one_mul] at this
    exact g p i' j' (by omega) (by omega) (by omega)
  · have : p * bs ≤ q * bs := Nat.mul_le_mul_right bs hpq
    exact g p i' j' (by omega) (by omega) (by omega)
def BSn (K : Int → List (List UInt8)) (bs n : Nat) (ys : List Int) : Prop := ∀ q : Nat, Srt K ys (q * bs) (min (q * bs + bs) n)
theorem Srt.sub {a b a' b' : Nat} (h : Srt K ys a b) (ha : a ≤ a') (hb : b' ≤ b) : Srt K ys a' b' := fun i j h1 h2 h3 => h i j (by omega) h2 (by omega)
theorem Srt.none {a b : Nat} (h : b ≤ a) : Srt K ys a b := fun i j h1 h2 h3 => by omega
end
set_option maxHeartbeats 4000000 in
theorem stableS_ok {K : Int → List (List UInt8)} {V : Int → Prop} {f : FuncId} {cs : List Value} (W0 : World) (o : Option Addr) (hC : CmpS W0 o f cs V K) (c n : Nat) (hn : n ≤ 100000) (xs : List Int) (W : World) (h : StI W0 o c n xs W) (hV : ∀ z ∈ xs, V z) (hinc : Inc xs 0 n) :
    Calls Try.prog 63 [.slice o n c, .int .i64 n, .func (.func f) #[] cs.toArray].toArray W (Ret fun v w' => v = .tuple #[] ∧ ∃ ys, StI W0 o c n ys w' ∧ ys.Perm xs ∧ Srt K ys 0 n) := by
  refine calls_of_sc 63 [(0, _), (1, _), (2, _)] Try.func63 rfl rfl rfl (enter_slots ⟨rfl, rfl, rfl, trivial⟩) ?_
  refine Sc.seq ?_
  refine Sc.region ?_
  refine Sl.calm (Cm.assign rfl) rfl ?_
  refine Sl.nil ?_
  refine At.go ?_
  refine Sc.seq ?_
  refine Sc.region ?_
  refine Sl.calm (Cm.move rfl) rfl ?_
  refine Sl.calm (Cm.assign rfl) rfl ?_
  refine Sl.calm (Cm.assign rfl) rfl ?_
  refine Sl.nil ?_
  refine At.weak [(0, _), (1, _), (2, _), (6, _), (7, _), (8, _)] ⟨rfl, rfl, rfl, rfl, rfl, rfl, trivial⟩ ?_
  refine At.go ?_
  refine Sc.seq ?_
  refine Sc.block ?_
  refine Sc.loop (β := Nat × List Int) (fun ⟨q, ys⟩ => [(0, .slice o n c), (1, .int .i64 n), (2, .func (.func f) #[] cs.toArray), (6, .int .i64 20), (7, .int .i64 ((q * 20 : Nat) : Int)), (8, .int .i64 ((q * 20 + 20 : Nat) : Int))]) (fun ⟨q, ys⟩ w => q * 20 ≤ n ∧ StI W0 o c n ys w ∧ ys.Perm xs ∧ BI 20 n ys ∧ (∀ p, p < q → Srt K ys (p * 20) (p * 20 + 20)) ∧ ∀ k, q * 20 ≤ k → ys.getD k 0 = xs.getD k 0) (fun ⟨q, ys⟩ => n - q * 20) ⟨0, xs⟩ ⟨rfl, rfl, rfl, rfl, rfl, rfl, trivial⟩ ⟨by omega, h, List.Perm.refl _, fun q i j i1 i2 i3 => hinc i j (Nat.zero_le _) (by omega) i3, fun p hp => by omega, fun _ _ => rfl⟩ ?_
  rintro ⟨q, ys⟩ w2 ⟨hq, hy, hyp, hyb, hys, hyk⟩
  refine Sc.seq ?_
  refine Sc.seq ?_
  refine Sc.region ?_
  refine Sl.calm (Cm.move rfl) rfl ?_
  refine Sl.calm (Cm.move rfl) rfl ?_
  refine Sl.fork (Cm.leq rfl rfl) rfl (fun h13 => ?_) (fun h13 => ?_)
  ·
    have hb : q * 20 + 20 ≤ n := by omega
    refine Sl.nil ?_
    refine At.weak [(0, _), (1, _), (2, _), (6, _), (7, _), (8, _), (13, _)] ⟨rfl, rfl, rfl, rfl, rfl, rfl, rfl, trivial⟩ ?_
    refine At.go ?_
    refine Sc.cond_t rfl ?_
    refine Sc.skip ?_
    refine At.go ?_
    refine Sc.block ?_
    refine Sc.seq ?_
    refine Sc.region ?_
    refine Sl.calm (Cm.move rfl) rfl ?_
    refine Sl.calm (Cm.move rfl) rfl ?_
    refine Sl.calm (Cm.move rfl) rfl ?_
    refine Sl.calm (Cm.move rfl) rfl ?_
    refine Sl.call fn73 rfl (insertS_ok W0 o hC c n (q * 20) (q * 20 + 20) ys w2 hy (fun z hz => hV z (hyp.mem_iff.1 hz)) (by omega) hb (by omega) (fun i j i1 i2 i3 => by rw [hyk i i1, hyk j (by omega)]; exact hinc i j (Nat.zero_le _) i2 (by omega))) rfl ?_
    rintro _ w3 ⟨rfl, zs, hz, hzg, hzs⟩
    refine Sl.nil ?_
    refine At.weak [(0, _), (1, _), (2, _), (6, _), (7, _), (8, _), (13, _)] ⟨rfl, rfl, rfl, rfl, rfl, rfl, rfl, trivial⟩ ?_
    refine At.go ?_
    refine Sc.seq ?_
    refine Sc.region ?_
    refine Sl.calm (Cm.move rfl) rfl ?_
    refine Sl.calm (Cm.assign rfl) rfl ?_
    refine Sl.nil ?_
    refine At.weak [(0, _), (1, _), (2, _), (6, _), (7, _), (8, _), (13, _)] ⟨rfl, rfl, rfl, rfl, rfl, rfl, rfl, trivial⟩ ?_
    refine At.go ?_
    refine Sc.region ?_
    refine Sl.calm (Cm.move rfl) rfl ?_
    refine Sl.calm (Cm.move rfl) rfl ?_
    refine Sl.calm (Cm.add64 rfl rfl (by omega)) rfl ?_
    refine Sl.calm (Cm.assign rfl) rfl ?_
    refine Sl.nil ?_
    refine At.block_normal ?_
    refine At.again ⟨q + 1, zs⟩ ⟨rfl, rfl, rfl, rfl, congrArg (fun z : Int => some (Value.int .i64 z)) (by omega), congrArg (fun z : Int => some (Value.int .i64 z)) (by omega), trivial⟩ ⟨by omega, hz, hzg.2.1.trans hyp, hzg.bi rfl (Nat.le_refl _) hb hyb, fun p hp => ?_, fun k hk => by rw [hzg.2.2.1 k (.inr (by omega))]; exact hyk k (by omega)⟩ (by show n - (q + 1) * 20 < n - q * 20; omega)
    by_cases e : p = q
    · subst e; exact hzs
    · exact srt_same (hys p (by omega)) (fun k k1 k2 => hzg.2.2.1 k (.inl (by omega)))
  ·
    have hb : ¬ q * 20 + 20 ≤ n := by omega
    refine Sl.nil ?_
    refine At.weak [(0, _), (1, _), (2, _), (6, _), (7, _), (8, _), (13, _)] ⟨rfl, rfl, rfl, rfl, rfl, rfl, rfl, trivial⟩ ?_
    refine At.go ?_
    refine Sc.cond_f rfl ?_
    refine Sc.exit ?_
    refine At.then_exit ?_
    refine At.then_exit ?_
    refine At.block_hit ?_
    refine At.go ?_
    refine Sc.seq ?_
    refine Sc.region ?_
    refine Sl.calm (Cm.move rfl) rfl ?_
    refine Sl.calm (Cm.move rfl) rfl ?_
    refine Sl.calm (Cm.move rfl) rfl ?_
    refine Sl.calm (Cm.move rfl) rfl ?_
    refine Sl.call fn73 rfl (insertS_ok W0 o hC c n (q * 20) n ys w2 hy (fun z hz => hV z (hyp.mem_iff.1 hz)) (by omega) (Nat.le_refl _) (by omega) (fun i j i1 i2 i3 => by rw [hyk i i1, hyk j (by omega)]; exact hinc i j (Nat.zero_le _) i2 (by omega))) rfl ?_
    rintro _ w3 ⟨rfl, zs, hz, hzg, hzs⟩
    have hzn : BSn K 20 n zs := fun p => by
      rcases Nat.lt_trichotomy p q with hp | hp | hp
      · have : (p + 1) * 20 ≤ q * 20 := Nat.mul_le_mul_right 20 hp
        exact srt_same (hys p hp) (fun k k1 k2 => hzg.2.2.1 k (.inl (by omega))) |>.sub (Nat.le_refl _) (by omega)
      · subst hp; exact hzs.sub (Nat.le_refl _) (by omega)
      · exact Srt.none (by omega)
    have hzb : BI 20 n zs := hzg.bi rfl (by omega) (Nat.le_refl _) hyb
    have hzp := hzg.2.1.trans hyp
    refine Sl.nil ?_
    refine At.weak [(0, _), (1, _), (2, _), (6, _), (7, _), (8, _), (13, _)] ⟨rfl, rfl, rfl, rfl, rfl, rfl, rfl, trivial⟩ ?_
    refine At.go ?_
    refine Sc.block ?_
    refine Sc.loop (β := Nat × List Int) (fun ⟨bs, vs⟩ => [(0, .slice o n c), (1, .int .i64 n), (2, .func (.func f) #[] cs.toArray), (6, .int .i64 bs)]) (fun ⟨bs, vs⟩ w => (20 ≤ bs ∧ bs ≤ 1000000) ∧ StI W0 o c n vs w ∧ vs.Perm xs ∧ BI bs n vs ∧ BSn K bs n vs) (fun ⟨bs, vs⟩ => n - bs) ⟨20, zs⟩ ⟨rfl, rfl, rfl, rfl, trivial⟩ ⟨⟨by omega, by omega⟩, hz, hzp, hzb, hzn⟩ ?_
    rintro ⟨bs, vs⟩ w4 ⟨⟨hbs, hbl⟩, hv4, hvp, hvb, hvs⟩
    refine Sc.seq ?_
    refine Sc.seq ?_
    refine Sc.region ?_
    refine Sl.calm (Cm.move rfl) rfl ?_
    refine Sl.calm (Cm.move rfl) rfl ?_
    refine Sl.fork (Cm.lss rfl rfl) rfl (fun h30 => ?_) (fun h30 => ?_)
    ·
      refine Sl.nil ?_
      refine At.weak [(0, _), (1, _), (2, _), (6, _), (30, _)] ⟨rfl, rfl, rfl, rfl, rfl, trivial⟩ ?_
      refine At.go ?_
      refine Sc.cond_t rfl ?_
      refine Sc.skip ?_
      refine At.go ?_
      refine Sc.block ?_
      refine Sc.seq ?_
      refine Sc.region ?_
      refine Sl.calm (Cm.move rfl) rfl ?_
      refine Sl.calm (Cm.mul64 rfl rfl (by omega)) rfl ?_
      refine Sl.calm (Cm.assign rfl) rfl ?_
      refine Sl.calm (Cm.assign rfl) rfl ?_
      refine Sl.nil ?_
      refine At.weak [(0, _), (1, _), (2, _), (6, _), (7, _), (8, _), (30, _)] ⟨rfl, rfl, rfl, rfl, rfl, rfl, rfl, trivial⟩ ?_
      refine At.go ?_
      refine Sc.seq ?_
      refine Sc.block ?_
      refine Sc.loop (β := Nat × Nat × List Int) (fun ⟨q, a, zs⟩ => [(0, .slice o n c), (1, .int .i64 n), (2, .func (.func f) #[] cs.toArray), (6, .int .i64 bs), (7, .int .i64 a), (8, .int .i64 ((a + 2 * bs : Nat) : Int))]) (fun ⟨q, a, zs⟩ w => (a = q * (2 * bs) ∧ a ≤ n) ∧ StI W0 o c n zs w ∧ zs.Perm xs ∧ BI (2 * bs) n zs ∧ (∀ p, p < q → Srt K zs (p * (2 * bs)) (p * (2 * bs) + 2 * bs)) ∧ (∀ p, a ≤ p * bs → Srt K zs (p * bs) (min (p * bs + bs) n)) ∧ (∀ p i j : Nat, a ≤ p * bs → i < p * bs → p * bs ≤ j → j < n → zs.getD i 0 < zs.getD j 0)) (fun ⟨q, a, zs⟩ => n - a) ⟨0, 0, vs⟩ ⟨rfl, rfl, rfl, rfl, rfl, (congrArg (fun z : Int => some (Value.int .i64 z)) (by omega)), trivial⟩ ⟨⟨by omega, by omega⟩, hv4, hvp, fun p i j i1 i2 i3 => hvb (2 * p) i j (by rw [Nat.mul_comm 2 p, Nat.mul_assoc]; exact i1) (by rw [Nat.mul_comm 2 p, Nat.mul_assoc]; exact i2) i3, fun p hp => by omega, fun p _ => hvs p, fun p i j _ i1 i2 i3 => hvb p i j i1 i2 i3⟩ ?_
      rintro ⟨q, a, zs⟩ w5 ⟨⟨ha, han⟩, hz5, hz5p, hb2, hsp, hsu, hbu⟩
      refine Sc.seq ?_
      refine Sc.seq ?_
      refine Sc.region ?_
      refine Sl.calm (Cm.move rfl) rfl ?_
      refine Sl.calm (Cm.move rfl) rfl ?_
      refine Sl.fork (Cm.leq rfl rfl) rfl (fun h35 => ?_) (fun h35 => ?_)
      ·
        have hb : a + 2 * bs ≤ n := by omega
        refine Sl.nil ?_
        refine At.weak [(0, _), (1, _), (2, _), (6, _), (7, _), (8, _), (35, _)] ⟨rfl, rfl, rfl, rfl, rfl, rfl, rfl, trivial⟩ ?_
        refine At.go ?_
        refine Sc.cond_t rfl ?_
        refine Sc.skip ?_
        refine At.go ?_
        refine Sc.block ?_
        refine Sc.seq ?_
        refine Sc.region ?_
        refine Sl.calm (Cm.move rfl) rfl ?_
        refine Sl.calm (Cm.move rfl) rfl ?_
        refine Sl.calm (Cm.move rfl) rfl ?_
        refine Sl.calm (Cm.move rfl) rfl ?_
        refine Sl.calm (Cm.add64 rfl rfl (by omega)) rfl ?_
        refine Sl.calm (Cm.move rfl) rfl ?_
        refine Sl.calm (Cm.move rfl) rfl ?_
        have e1 : 2 * q * bs = a := by rw [ha, Nat.mul_comm 2 q, Nat.mul_assoc]
        have e2 : (2 * q + 1) * bs = a + bs := by rw [Nat.add_mul, Nat.one_mul, e1]
        have e3 : (q + 1) * (2 * bs) = a + 2 * bs := by rw [Nat.add_mul, Nat.one_mul, ha]
        refine Sl.call fn74 rfl ((by rw [show ((a : Int) + bs) = ((a + bs : Nat) : Int) by omega]; exact symS_ok W0 o hC c n (by omega) (a + 2 * bs - a) a (a + bs) (a + 2 * bs) zs w5 (Nat.le_refl _) hz5 (fun z hz => hV z (hz5p.mem_iff.1 hz)) (by omega) (by omega) hb (by have h9 := hsu (2 * q) (by omega); rw [e1] at h9; exact h9.sub (Nat.le_refl _) (by omega)) (by have h9 := hsu (2 * q + 1) (by omega); rw [e2] at h9; exact h9.sub (Nat.le_refl _) (by omega)) (fun i j i1 i2 i3 i4 => hbu (2 * q + 1) i j (by omega) (by omega) (by omega) (by omega)))) rfl ?_
        rintro _ w6 ⟨rfl, us, hu, hug, hus⟩
        refine Sl.nil ?_
        refine At.weak [(0, _), (1, _), (2, _), (6, _), (7, _), (8, _), (35, _)] ⟨rfl, rfl, rfl, rfl, rfl, rfl, rfl, trivial⟩ ?_
        refine At.go ?_
        refine Sc.seq ?_
        refine Sc.region ?_
        refine Sl.calm (Cm.move rfl) rfl ?_
        refine Sl.calm (Cm.assign rfl) rfl ?_
        refine Sl.nil ?_
        refine At.weak [(0, _), (1, _), (2, _), (6, _), (7, _), (8, _), (35, _)] ⟨rfl, rfl, rfl, rfl, rfl, rfl, rfl, trivial⟩ ?_
        refine At.go ?_
        refine Sc.region ?_
        refine Sl.calm (Cm.move rfl) rfl ?_
        refine Sl.calm (Cm.move rfl) rfl ?_
        refine Sl.calm (Cm.mul64 rfl rfl (by omega)) rfl ?_
        refine Sl.calm (Cm.add64 rfl rfl (by omega)) rfl ?_
        refine Sl.calm (Cm.assign rfl) rfl ?_
        refine Sl.nil ?_
        refine At.block_normal ?_
        refine At.again ⟨q + 1, a + 2 * bs, us⟩ ⟨rfl, rfl, rfl, rfl, rfl, congrArg (fun z : Int => some (Value.int .i64 z)) (by omega), trivial⟩ ⟨⟨e3.symm, hb⟩, hu, hug.2.1.trans hz5p, hug.bi ha (Nat.le_refl _) hb hb2, fun p hp => ?_, fun p hp => srt_same (hsu p (by omega)) (fun k k1 k2 => hug.2.2.1 k (.inr (by omega))), fun p i j hp i1 i2 i3 => ?_⟩ (by show n - (a + 2 * bs) < n - a; omega)
        · by_cases e : p = q
          · subst e; rw [← ha]; exact hus
          · have := Nat.mul_le_mul_right (2 * bs) (show p + 1 ≤ q by omega)
            rw [Nat.add_mul, Nat.one_mul] at this
            exact srt_same (hsp p (by omega)) (fun k k1 k2 => hug.2.2.1 k (.inl (by omega)))
        · rw [hug.2.2.1 j (.inr (by omega))]
          by_cases hi : a ≤ i ∧ i < a + 2 * bs
          · obtain ⟨i', a1, a2, a3⟩ := hug.2.2.2 i hi.1 hi.2
            rw [a3]; exact hbu p i' j (by omega) (by omega) i2 i3
          · rw [hug.2.2.1 i (by omega)]; exact hbu p i j (by omega) i1 i2 i3
      ·
        have hb : ¬ a + 2 * bs ≤ n := by omega
        refine Sl.nil ?_
        refine At.weak [(0, _), (1, _), (2, _), (6, _), (7, _), (8, _), (35, _)] ⟨rfl, rfl, rfl, rfl, rfl, rfl, rfl, trivial⟩ ?_
        refine At.go ?_
        refine Sc.cond_f rfl ?_
        refine Sc.exit ?_
        refine At.then_exit ?_
        refine At.then_exit ?_
        refine At.block_hit ?_
        refine At.go ?_
        refine Sc.cut (β := List Int) (fun vs => [(0, .slice o n c), (1, .int .i64 n), (2, .func (.func f) #[] cs.toArray), (6, .int .i64 bs)]) (fun vs w => StI W0 o c n vs w ∧ vs.Perm xs ∧ BI (2 * bs) n vs ∧ BSn K (2 * bs) n vs) ?_ ?_
        ·
          refine Sc.seq ?_
          refine Sc.region ?_
          refine Sl.calm (Cm.move rfl) rfl ?_
          refine Sl.calm (Cm.move rfl) rfl ?_
          refine Sl.calm (Cm.add64 rfl rfl (by omega)) rfl ?_
          refine Sl.calm (Cm.assign rfl) rfl ?_
          refine Sl.nil ?_
          refine At.weak [(0, _), (1, _), (2, _), (6, _), (7, _), (8, _), (9, _), (35, _)] ⟨rfl, rfl, rfl, rfl, rfl, rfl, rfl, rfl, trivial⟩ ?_
          refine At.go ?_
          refine Sc.seq ?_
          refine Sc.region ?_
          refine Sl.calm (Cm.move rfl) rfl ?_
          refine Sl.calm (Cm.move rfl) rfl ?_
          refine Sl.fork (Cm.lss rfl rfl) rfl (fun h54 => ?_) (fun h54 => ?_)
          ·
            refine Sl.nil ?_
            refine At.weak [(0, _), (1, _), (2, _), (6, _), (7, _), (8, _), (9, _), (35, _), (54, _)] ⟨rfl, rfl, rfl, rfl, rfl, rfl, rfl, rfl, rfl, trivial⟩ ?_
            refine At.go ?_
            refine Sc.cond_t rfl ?_
            refine Sc.region ?_
            refine Sl.calm (Cm.move rfl) rfl ?_
            refine Sl.calm (Cm.move rfl) rfl ?_
            refine Sl.calm (Cm.move rfl) rfl ?_
            refine Sl.calm (Cm.move rfl) rfl ?_
            refine Sl.calm (Cm.move rfl) rfl ?_
            have e1 : 2 * q * bs = a := by rw [ha, Nat.mul_comm 2 q, Nat.mul_assoc]
            have e2 : (2 * q + 1) * bs = a + bs := by rw [Nat.add_mul, Nat.one_mul, e1]
            refine Sl.call fn74 rfl ((by rw [show ((a : Int) + bs) = ((a + bs : Nat) : Int) by omega]; exact symS_ok W0 o hC c n (by omega) (n - a) a (a + bs) n zs w5 (Nat.le_refl _) hz5 (fun z hz => hV z (hz5p.mem_iff.1 hz)) (by omega) (by omega) (Nat.le_refl _) (by have h9 := hsu (2 * q) (by omega); rw [e1] at h9; exact h9.sub (Nat.le_refl _) (by omega)) (by have h9 := hsu (2 * q + 1) (by omega); rw [e2] at h9; exact h9.sub (Nat.le_refl _) (by omega)) (fun i j i1 i2 i3 i4 => hbu (2 * q + 1) i j (by omega) (by omega) (by omega) (by omega)))) rfl ?_
            rintro _ w6 ⟨rfl, us, hu, hug, hus⟩
            refine Sl.nil ?_
            first
              | exact At.cut us ⟨rfl, rfl, rfl, rfl, trivial⟩ ⟨hu, hug.2.1.trans hz5p, hug.bi ha (by omega) (Nat.le_refl _) hb2, fun p => by
                  rcases Nat.lt_trichotomy p q with hp | hp | hp
                  · have := Nat.mul_le_mul_right (2 * bs) hp
                    rw [Nat.succ_eq_add_one, Nat.add_mul, Nat.one_mul] at this
                    exact (srt_same (hsp p hp) (fun k k1 k2 => hug.2.2.1 k (.inl (by omega)))).sub (Nat.le_refl _) (by omega)
                  · subst hp; rw [← ha]; exact hus.sub (Nat.le_refl _) (by omega)
                  · have := Nat.mul_le_mul_right (2 * bs) hp
                    rw [Nat.succ_eq_add_one, Nat.add_mul, Nat.one_mul] at this
                    exact Srt.none (by omega)⟩
              | exact At.cut zs ⟨rfl, rfl, rfl, rfl, trivial⟩ ⟨hz5, hz5p, hb2, fun p => by
                  rcases Nat.lt_trichotomy p q with hp | hp | hp
                  · exact (hsp p hp).sub (Nat.le_refl _) (by omega)
                  · subst hp
                    have e1 : 2 * p * bs = a := by rw [ha, Nat.mul_comm 2 p, Nat.mul_assoc]
                    have h9 := hsu (2 * p) (by omega)
                    rw [e1] at h9
                    rw [← ha]; exact h9.sub (Nat.le_refl _) (by omega)
                  · have := Nat.mul_le_mul_right (2 * bs) hp
                    rw [Nat.succ_eq_add_one, Nat.add_mul, Nat.one_mul] at this
                    exact Srt.none (by omega)⟩
          ·
            refine Sl.nil ?_
            refine At.weak [(0, _), (1, _), (2, _), (6, _), (7, _), (8, _), (9, _), (35, _), (54, _)] ⟨rfl, rfl, rfl, rfl, rfl, rfl, rfl, rfl, rfl, trivial⟩ ?_
            refine At.go ?_
            refine Sc.cond_f rfl ?_
            refine Sc.skip ?_
            first
              | exact At.cut us ⟨rfl, rfl, rfl, rfl, trivial⟩ ⟨hu, hug.2.1.trans hz5p, hug.bi ha (by omega) (Nat.le_refl _) hb2, fun p => by
                  rcases Nat.lt_trichotomy p q with hp | hp | hp
                  · have := Nat.mul_le_mul_right (2 * bs) hp
                    rw [Nat.succ_eq_add_one, Nat.add_mul, Nat.one_mul] at this
                    exact (srt_same (hsp p hp) (fun k k1 k2 => hug.2.2.1 k (.inl (by omega)))).sub (Nat.le_refl _) (by omega)
                  · subst hp; rw [← ha]; exact hus.sub (Nat.le_refl _) (by omega)
                  · have := Nat.mul_le_mul_right (2 * bs) hp
                    rw [Nat.succ_eq_add_one, Nat.add_mul, Nat.one_mul] at this
                    exact Srt.none (by omega)⟩
              | exact At.cut zs ⟨rfl, rfl, rfl, rfl, trivial⟩ ⟨hz5, hz5p, hb2, fun p => by
                  rcases Nat.lt_trichotomy p q with hp | hp | hp
                  · exact (hsp p hp).sub (Nat.le_refl _) (by omega)
                  · subst hp
                    have e1 : 2 * p * bs = a := by rw [ha, Nat.mul_comm 2 p, Nat.mul_assoc]
                    have h9 := hsu (2 * p) (by omega)
                    rw [e1] at h9
                    rw [← ha]; exact h9.sub (Nat.le_refl _) (by omega)
                  · have := Nat.mul_le_mul_right (2 * bs) hp
                    rw [Nat.succ_eq_add_one, Nat.add_mul, Nat.one_mul] at this
                    exact Srt.none (by omega)⟩
        ·
          rintro vs w8 ⟨hv8, hv8p, hv8b, hv8s⟩
          refine Sc.region ?_
          refine Sl.calm (Cm.move rfl) rfl ?_
          refine Sl.calm (Cm.mul64 rfl rfl (by omega)) rfl ?_
          refine Sl.calm (Cm.assign rfl) rfl ?_
          refine Sl.nil ?_
          refine At.block_normal ?_
          exact At.again ⟨2 * bs, vs⟩ ⟨rfl, rfl, rfl, congrArg (fun z : Int => some (Value.int .i64 z)) (by omega), trivial⟩ ⟨⟨by omega, by omega⟩, hv8, hv8p, hv8b, hv8s⟩ (by show n - 2 * bs < n - bs; omega)
    ·
      refine Sl.nil ?_
      refine At.weak [(0, _), (1, _), (2, _), (6, _), (30, _)] ⟨rfl, rfl, rfl, rfl, rfl, trivial⟩ ?_
      refine At.go ?_
      refine Sc.cond_f rfl ?_
      refine Sc.exit ?_
      refine At.then_exit ?_
      refine At.then_exit ?_
      refine At.block_hit ?_
      refine At.end0 rfl ?_
      refine ⟨_, rfl, rfl, vs, hv4, hvp, ?_⟩
      have h9 := hvs 0
      rw [Nat.zero_mul] at h9
      exact h9.sub (Nat.le_refl _) (by omega)
theorem sortStable_ok {K : Int → List (List UInt8)} {V : Int → Prop} {f : FuncId} {cs : List Value} (W0 : World) (o : Option Addr) (hC : CmpS W0 o f cs V K) (c n : Nat) (hn : n ≤ 100000) (xs : List Int) (W : World) (h : StI W0 o c n xs W) (hV : ∀ z ∈ xs, V z) (hinc : Inc xs 0 n) :
    Calls Try.prog 39 [.slice o n c, .func (.func f) #[] cs.toArray].toArray W (Ret fun v w' => v = .tuple #[] ∧ ∃ ys, StI W0 o c n ys w' ∧ ys.Perm xs ∧ Srt K ys 0 n) := by
  refine calls_of_sc 9 [(0, _), (1, _)] Try.func39 rfl rfl rfl (enter_slots ⟨rfl, rfl, trivial⟩) ?_
  refine Sc.region ?_
  refine Sl.calm (Cm.move rfl) rfl ?_
  refine Sl.calm (Cm.move rfl) rfl ?_
  refine Sl.calm (Cm.len sl37 rfl) rfl ?_
  refine Sl.calm (Cm.move rfl) rfl ?_
  refine Sl.call fn63 rfl (stableS_ok W0 o hC c n hn xs W h hV hinc) rfl ?_
  rintro _ w1 ⟨rfl, ys, hy, hyp, hys⟩
  refine Sl.nil ?_
  refine At.end0 rfl ?_
  exact ⟨_, rfl, rfl, ys, hy, hyp, hys⟩
end Go.Proofs.Ytpnfjfbfgaiolaa
