/- slices.SortStableFunc over numbers: swapRange, rotate. No condition beyond the bounds that each states. -/
import Derived.Test.YtpnfjfbfgaiolaaTsA
namespace Go.Proofs.Ytpnfjfbfgaiolaa
open Go Go.RowKit
set_option linter.unusedVariables false

theorem i64_oneS (x : Int) : (i64 x).oneCell' = true := rfl
/-- a row of numbers that is put in order -/
def StI (W0 : World) (o : Option Addr) (c n : Nat) (xs : List Int) (w : World) : Prop := Own i64 3 w.heap o c xs ∧ xs.length = n ∧ Foot (blk o) W0 w
theorem StI.draws {W0 : World} {o : Option Addr} {c n : Nat} {xs : List Int} {w : World} (h : StI W0 o c n xs w) (k : Nat) : StI W0 o c n xs (w.drewN k) := ⟨h.1, h.2.1, h.2.2.draws k⟩
theorem StI.grow {W0 : World} {o : Option Addr} {c n : Nat} {xs : List Int} {w w' : World} (h : StI W0 o c n xs w) (f : Foot nob w w') : StI W0 o c n xs w' := ⟨h.1.grow f, h.2.1, h.2.2.trans (f.mono (fun _ h => h.elim))⟩
set_option maxHeartbeats 1000000 in
theorem swapR_ok (W0 : World) (o : Option Addr) (c n a b m : Nat) (fv : Value) (xs : List Int) (W : World) (h : StI W0 o c n xs W) (hab : a + m ≤ b) (hbm : b + m ≤ n) (hn : n ≤ 1000000) :
    Calls Try.prog 98 [.slice o n c, .int .i64 a, .int .i64 b, .int .i64 m, fv].toArray W (Ret fun v w' => v = .tuple #[] ∧ ∃ ys, StI W0 o c n ys w' ∧ ys.Perm xs ∧ ∀ k, ys.getD k 0 = xs.getD (sx a b m k) 0) := by
  refine calls_of_sc 38 [(0, _), (1, _), (2, _), (3, _), (4, _)] Try.func98 rfl rfl rfl (enter_slots ⟨rfl, rfl, rfl, rfl, rfl, trivial⟩) ?_
  refine Sc.seq ?_
  refine Sc.region ?_
  refine Sl.calm (Cm.assign rfl) rfl ?_
  refine Sl.nil ?_
  refine At.go ?_
  refine Sc.block ?_
  refine Sc.loop (β := Nat × List Int) (fun ⟨i, ys⟩ => [(0, .slice o n c), (1, .int .i64 a), (2, .int .i64 b), (3, .int .i64 m), (10, .int .i64 i)]) (fun ⟨i, ys⟩ w => i ≤ m ∧ StI W0 o c n ys w ∧ ys.Perm xs ∧ ∀ k, ys.getD k 0 = xs.getD (sx a b i k) 0) (fun ⟨i, ys⟩ => m - i) ⟨0, xs⟩ ⟨rfl, rfl, rfl, rfl, rfl, trivial⟩ ⟨Nat.zero_le _, h, List.Perm.refl _, fun k => by rw [sx_zero]⟩ ?_
  rintro ⟨i, ys⟩ w2 ⟨hi, hy, hp, hk⟩
  refine Sc.seq ?_
  refine Sc.seq ?_
  refine Sc.region ?_
  refine Sl.calm (Cm.move rfl) rfl ?_
  refine Sl.calm (Cm.move rfl) rfl ?_
  refine Sl.fork (Cm.lss rfl rfl) rfl (fun h13 => ?_) (fun h13 => ?_)
  ·
    have him : i < m := by omega
    refine Sl.nil ?_
    refine At.weak [(0, _), (1, _), (2, _), (3, _), (10, _), (13, _)] ⟨rfl, rfl, rfl, rfl, rfl, rfl, trivial⟩ ?_
    refine At.go ?_
    refine Sc.cond_t rfl ?_
    refine Sc.skip ?_
    refine At.go ?_
    refine Sc.seq ?_
    refine Sc.block ?_
    have hyl := hy.2.1
    refine Sc.drawZ 21 [13, 19] (fun H => Vw i64 H o c ys) [21, 23] [0, 1, 2, 3, 4, 5, 6, 7, 8, 9, 10, 11, 12, 13, 14, 15, 16, 17, 18, 19, 20] (.alt 21 [22] (.alt 23 [] .fin .stop) .stop) mixed (by kernel_rfl) (hy.1.vw) ?_
    refine Sz.calm rfl rfl (Cm.move rfl) rfl ?_
    refine Sz.calm rfl rfl (Cm.move rfl) rfl ?_
    refine Sz.calm rfl rfl (Cm.move rfl) rfl ?_
    refine Sz.calm rfl rfl (Cm.add64 rfl rfl (by omega)) rfl ?_
    refine Sz.calm rfl rfl (Cm.move rfl) rfl ?_
    refine Sz.calm rfl rfl (Cm.move rfl) rfl ?_
    refine Sz.calm rfl rfl (Cm.move rfl) rfl ?_
    refine Sz.calm rfl rfl (Cm.add64 rfl rfl (by omega)) rfl ?_
    refine Sz.calm rfl rfl (Cm.move rfl) rfl ?_
    refine Sz.calm rfl rfl (Cm.move rfl) rfl ?_
    refine Sz.calm rfl rfl (Cm.move rfl) rfl ?_
    refine Sz.calm rfl rfl (Cm.add64 rfl rfl (by omega)) rfl ?_
    refine Sz.calm rfl rfl (Cm.indexAddr1 sl37 rfl rfl (by rw [← hy.2.1]; exact hy.1.vw.non) (by omega)) rfl ?_
    refine Sz.calm rfl rfl (Cm.load sca3 rfl (fun H (hH : Vw i64 H o c ys) => hH.gz 0 (b + i) (by omega) (by omega))) rfl ?_
    refine Sz.calm rfl rfl (Cm.move rfl) rfl ?_
    refine Sz.calm rfl rfl (Cm.move rfl) rfl ?_
    refine Sz.calm rfl rfl (Cm.move rfl) rfl ?_
    refine Sz.calm rfl rfl (Cm.add64 rfl rfl (by omega)) rfl ?_
    refine Sz.calm rfl rfl (Cm.indexAddr1 sl37 rfl rfl (by rw [← hy.2.1]; exact hy.1.vw.non) (by omega)) rfl ?_
    refine Sz.calm rfl rfl (Cm.load sca3 rfl (fun H (hH : Vw i64 H o c ys) => hH.gz 0 (a + i) (by omega) (by omega))) rfl ?_
    refine Sz.calm rfl rfl (Cm.indexAddr1 sl37 rfl rfl (by rw [← hy.2.1]; exact hy.1.vw.non) (by omega)) rfl ?_
    refine Sz.alt ?_ ?_
    ·
      refine Sz.eff rfl rfl (Sl.storeRow i64_oneS sca3 (z := (a : Int) + i) (u := ys.getD (b + i) 0) rfl rfl (hy.draws 1).1 (by omega) ?_)
      intro w3 ho3 hs3 hf3
      refine Sz.off rfl ?_
      refine Sz.calm rfl rfl (Cm.indexAddr1 sl37 rfl rfl (by rw [← hy.2.1]; exact hy.1.vw.non) (by omega)) rfl ?_
      refine Sz.alt ?_ ?_
      ·
        refine Sz.eff rfl rfl (Sl.storeRow i64_oneS sca3 (z := (b : Int) + i) (u := ys.getD (a + i) 0) rfl rfl ho3 (by rw [List.length_set]; omega) ?_)
        intro w4 ho4 hs4 hf4
        have e1 : ((a : Int) + i).toNat = a + i := by omega
        have e2 : ((b : Int) + i).toNat = b + i := by omega
        rw [e1, e2] at ho4
        refine Sz.off rfl ?_
        refine Sz.nil ?_
        refine At.block_normal ?_
        refine At.weak [(0, _), (1, _), (2, _), (3, _), (10, _), (13, _)] ⟨rfl, rfl, rfl, rfl, rfl, rfl, trivial⟩ ?_
        refine At.go ?_
        refine Sc.region ?_
        refine Sl.calm (Cm.move rfl) rfl ?_
        refine Sl.calm (Cm.add64 rfl rfl (by omega)) rfl ?_
        refine Sl.calm (Cm.assign rfl) rfl ?_
        refine Sl.nil ?_
        refine At.again ⟨i + 1, swapL ys (a + i) (b + i)⟩ ⟨rfl, rfl, rfl, rfl, rfl, trivial⟩ ⟨by omega, ⟨ho4, by rw [swap_len]; exact hyl, ((hy.2.2.draws 1).trans hf3).trans hf4⟩, (swap_perm (by omega) (by omega)).trans hp, fun k => ?_⟩ (by show m - (i + 1) < m - i; omega)
        rw [gd_swap (by omega) (by omega), hk, sx_succ (by omega)]
      exact Sz.stop
    exact Sz.stop
  ·
    have hie : i = m := by omega
    subst hie
    refine Sl.nil ?_
    refine At.weak [(0, _), (1, _), (2, _), (3, _), (10, _), (13, _)] ⟨rfl, rfl, rfl, rfl, rfl, rfl, trivial⟩ ?_
    refine At.go ?_
    refine Sc.cond_f rfl ?_
    refine Sc.exit ?_
    refine At.then_exit ?_
    refine At.then_exit ?_
    refine At.block_hit ?_
    refine At.end0 rfl ?_
    exact ⟨_, rfl, rfl, ys, hy, hp, hk⟩
set_option maxHeartbeats 1000000 in
theorem rotate_ok (W0 : World) (o : Option Addr) (c n a m b : Nat) (fv : Value) (xs : List Int) (W : World) (h : StI W0 o c n xs W) (ham : a < m) (hmb : m < b) (hbn : b ≤ n) (hn : n ≤ 1000000) :
    Calls Try.prog 89 [.slice o n c, .int .i64 a, .int .i64 m, .int .i64 b, fv].toArray W (Ret fun v w' => v = .tuple #[] ∧ ∃ ys, StI W0 o c n ys w' ∧ ys.Perm xs ∧ ∀ k, ys.getD k 0 = xs.getD (rx a m b k) 0) := by
  refine calls_of_sc 58 [(0, _), (1, _), (2, _), (3, _), (4, _)] Try.func89 rfl rfl rfl (enter_slots ⟨rfl, rfl, rfl, rfl, rfl, trivial⟩) ?_
  refine Sc.seq ?_
  refine Sc.region ?_
  refine Sl.calm (Cm.move rfl) rfl ?_
  refine Sl.calm (Cm.move rfl) rfl ?_
  refine Sl.calm (Cm.sub64 rfl rfl (by omega)) rfl ?_
  refine Sl.calm (Cm.assign rfl) rfl ?_
  refine Sl.nil ?_
  refine At.weak [(0, _), (1, _), (2, _), (3, _), (4, _), (10, _)] ⟨rfl, rfl, rfl, rfl, rfl, rfl, trivial⟩ ?_
  refine At.go ?_
  refine Sc.seq ?_
  refine Sc.region ?_
  refine Sl.calm (Cm.move rfl) rfl ?_
  refine Sl.calm (Cm.move rfl) rfl ?_
  refine Sl.calm (Cm.sub64 rfl rfl (by omega)) rfl ?_
  refine Sl.calm (Cm.assign rfl) rfl ?_
  refine Sl.nil ?_
  refine At.weak [(0, _), (1, _), (2, _), (3, _), (4, _), (10, _), (11, _)] ⟨rfl, rfl, rfl, rfl, rfl, rfl, rfl, trivial⟩ ?_
  refine At.go ?_
  refine Sc.seq ?_
  refine Sc.block ?_
  refine Sc.loop (β := Nat × Nat × List Int) (fun ⟨i, j, ys⟩ => [(0, .slice o n c), (2, .int .i64 m), (4, fv), (10, .int .i64 i), (11, .int .i64 j)]) (fun ⟨i, j, ys⟩ w => (0 < i ∧ 0 < j ∧ i ≤ m ∧ m + j ≤ n) ∧ StI W0 o c n ys w ∧ ys.Perm xs ∧ ∀ k, xs.getD (rx a m b k) 0 = ys.getD (rx (m - i) m (m + j) k) 0) (fun ⟨i, j, ys⟩ => i + j) ⟨m - a, b - m, xs⟩ ⟨rfl, rfl, rfl, (congrArg (fun z : Int => some (Value.int .i64 z)) (by omega)), (congrArg (fun z : Int => some (Value.int .i64 z)) (by omega)), trivial⟩ ⟨⟨by omega, by omega, by omega, by omega⟩, h, List.Perm.refl _, fun k => by rw [show m - (m - a) = a by omega, show m + (b - m) = b by omega]⟩ ?_
  rintro ⟨i, j, ys⟩ w2 ⟨⟨hi0, hj0, him, hjn⟩, hy, hp, hk⟩
  refine Sc.seq ?_
  refine Sc.seq ?_
  refine Sc.region ?_
  refine Sl.calm (Cm.move rfl) rfl ?_
  refine Sl.calm (Cm.move rfl) rfl ?_
  refine Sl.fork (Cm.neq rfl rfl) rfl (fun h20 => ?_) (fun h20 => ?_)
  ·
    refine Sl.nil ?_
    refine At.weak [(0, _), (2, _), (4, _), (10, _), (11, _), (20, _)] ⟨rfl, rfl, rfl, rfl, rfl, rfl, trivial⟩ ?_
    refine At.go ?_
    refine Sc.cond_t rfl ?_
    refine Sc.skip ?_
    refine At.go ?_
    refine Sc.block ?_
    refine Sc.seq ?_
    refine Sc.region ?_
    refine Sl.calm (Cm.move rfl) rfl ?_
    refine Sl.calm (Cm.move rfl) rfl ?_
    refine Sl.fork (Cm.gtr rfl rfl) rfl (fun h23 => ?_) (fun h23 => ?_)
    ·
      refine Sl.nil ?_
      refine At.weak [(0, _), (2, _), (4, _), (10, _), (11, _), (20, _), (23, _)] ⟨rfl, rfl, rfl, rfl, rfl, rfl, rfl, trivial⟩ ?_
      refine At.go ?_
      refine Sc.cond_t rfl ?_
      refine Sc.seq ?_
      refine Sc.region ?_
      refine Sl.calm (Cm.move rfl) rfl ?_
      refine Sl.calm (Cm.move rfl) rfl ?_
      refine Sl.calm (Cm.move rfl) rfl ?_
      refine Sl.calm (Cm.sub64 rfl rfl (by omega)) rfl ?_
      refine Sl.calm (Cm.move rfl) rfl ?_
      refine Sl.calm (Cm.move rfl) rfl ?_
      refine Sl.calm (Cm.move rfl) rfl ?_
      obtain ⟨a1, ha1⟩ : ∃ a1 : Nat, a1 = m - i := ⟨_, rfl⟩
      refine Sl.call fn98 rfl ((by rw [show ((m : Int) - i) = ((m - i : Nat) : Int) by omega]; exact swapR_ok W0 o c n (m - i) m j fv ys w2 hy (by omega) (by omega) hn)) rfl ?_
      rintro _ w3 ⟨rfl, zs, hz, hzp, hzk⟩
      refine Sl.nil ?_
      refine At.weak [(0, _), (2, _), (4, _), (10, _), (11, _), (20, _), (23, _)] ⟨rfl, rfl, rfl, rfl, rfl, rfl, rfl, trivial⟩ ?_
      refine At.go ?_
      refine Sc.region ?_
      refine Sl.calm (Cm.move rfl) rfl ?_
      refine Sl.calm (Cm.move rfl) rfl ?_
      refine Sl.calm (Cm.sub64 rfl rfl (by omega)) rfl ?_
      refine Sl.calm (Cm.assign rfl) rfl ?_
      refine Sl.nil ?_
      refine At.block_normal ?_
      first
        | exact At.again ⟨i - j, j, zs⟩ ⟨rfl, rfl, rfl, congrArg (fun z : Int => some (Value.int .i64 z)) (by omega), rfl, trivial⟩ ⟨⟨by omega, by omega, by omega, by omega⟩, hz, hzp.trans hp, fun k => by rw [hk, hzk, rx_gt (by omega) hj0 him]⟩ (by show i - j + j < i + j; omega)
        | exact At.again ⟨i, j - i, zs⟩ ⟨rfl, rfl, rfl, rfl, congrArg (fun z : Int => some (Value.int .i64 z)) (by omega), trivial⟩ ⟨⟨by omega, by omega, by omega, by omega⟩, hz, hzp.trans hp, fun k => by rw [hk, hzk, rx_lt (by omega) hi0 him]⟩ (by show i + (j - i) < i + j; omega)
    ·
      refine Sl.nil ?_
      refine At.weak [(0, _), (2, _), (4, _), (10, _), (11, _), (20, _), (23, _)] ⟨rfl, rfl, rfl, rfl, rfl, rfl, rfl, trivial⟩ ?_
      refine At.go ?_
      refine Sc.cond_f rfl ?_
      refine Sc.seq ?_
      refine Sc.region ?_
      refine Sl.calm (Cm.move rfl) rfl ?_
      refine Sl.calm (Cm.move rfl) rfl ?_
      refine Sl.calm (Cm.move rfl) rfl ?_
      refine Sl.calm (Cm.sub64 rfl rfl (by omega)) rfl ?_
      refine Sl.calm (Cm.move rfl) rfl ?_
      refine Sl.calm (Cm.move rfl) rfl ?_
      refine Sl.calm (Cm.add64 rfl rfl (by omega)) rfl ?_
      refine Sl.calm (Cm.move rfl) rfl ?_
      refine Sl.calm (Cm.sub64 rfl rfl (by omega)) rfl ?_
      refine Sl.calm (Cm.move rfl) rfl ?_
      refine Sl.calm (Cm.move rfl) rfl ?_
      refine Sl.call fn98 rfl ((by rw [show ((m : Int) - i) = ((m - i : Nat) : Int) by omega, show ((m : Int) + j - i) = ((m + (j - i) : Nat) : Int) by omega]; exact swapR_ok W0 o c n (m - i) (m + (j - i)) i fv ys w2 hy (by omega) (by omega) hn)) rfl ?_
      rintro _ w3 ⟨rfl, zs, hz, hzp, hzk⟩
      refine Sl.nil ?_
      refine At.weak [(0, _), (2, _), (4, _), (10, _), (11, _), (20, _), (23, _)] ⟨rfl, rfl, rfl, rfl, rfl, rfl, rfl, trivial⟩ ?_
      refine At.go ?_
      refine Sc.region ?_
      refine Sl.calm (Cm.move rfl) rfl ?_
      refine Sl.calm (Cm.move rfl) rfl ?_
      refine Sl.calm (Cm.sub64 rfl rfl (by omega)) rfl ?_
      refine Sl.calm (Cm.assign rfl) rfl ?_
      refine Sl.nil ?_
      refine At.block_normal ?_
      first
        | exact At.again ⟨i - j, j, zs⟩ ⟨rfl, rfl, rfl, congrArg (fun z : Int => some (Value.int .i64 z)) (by omega), rfl, trivial⟩ ⟨⟨by omega, by omega, by omega, by omega⟩, hz, hzp.trans hp, fun k => by rw [hk, hzk, rx_gt (by omega) hj0 him]⟩ (by show i - j + j < i + j; omega)
        | exact At.again ⟨i, j - i, zs⟩ ⟨rfl, rfl, rfl, rfl, congrArg (fun z : Int => some (Value.int .i64 z)) (by omega), trivial⟩ ⟨⟨by omega, by omega, by omega, by omega⟩, hz, hzp.trans hp, fun k => by rw [hk, hzk, rx_lt (by omega) hi0 him]⟩ (by show i + (j - i) < i + j; omega)
  ·
    have hij : i = j := by omega
    subst hij
    refine Sl.nil ?_
    refine At.weak [(0, _), (2, _), (4, _), (10, _), (11, _), (20, _)] ⟨rfl, rfl, rfl, rfl, rfl, rfl, trivial⟩ ?_
    refine At.go ?_
    refine Sc.cond_f rfl ?_
    refine Sc.exit ?_
    refine At.then_exit ?_
    refine At.then_exit ?_
    refine At.block_hit ?_
    refine At.go ?_
    refine Sc.region ?_
    refine Sl.calm (Cm.move rfl) rfl ?_
    refine Sl.calm (Cm.move rfl) rfl ?_
    refine Sl.calm (Cm.move rfl) rfl ?_
    refine Sl.calm (Cm.sub64 rfl rfl (by omega)) rfl ?_
    refine Sl.calm (Cm.move rfl) rfl ?_
    refine Sl.calm (Cm.move rfl) rfl ?_
    refine Sl.calm (Cm.move rfl) rfl ?_
    refine Sl.call fn98 rfl ((by rw [show ((m : Int) - i) = ((m - i : Nat) : Int) by omega]; exact swapR_ok W0 o c n (m - i) m i fv ys w2 hy (by omega) (by omega) hn)) rfl ?_
    rintro _ w3 ⟨rfl, zs, hz, hzp, hzk⟩
    refine Sl.nil ?_
    refine At.end0 rfl ?_
    exact ⟨_, rfl, rfl, zs, hz, hzp.trans hp, fun k => by rw [hk, hzk, rx_eq him]⟩
end Go.Proofs.Ytpnfjfbfgaiolaa
