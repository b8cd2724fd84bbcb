/- slices.SortStableFunc over numbers: symMerge. No condition beyond the bounds that each states. -/
import Derived.Test.YtpnfjfbfgaiolaaTsD
namespace Go.Proofs.Ytpnfjfbfgaiolaa
open Go Go.RowKit
set_option linter.unusedVariables false

set_option maxHeartbeats 8000000 in
theorem symS_ok {K : Int → List (List UInt8)} {V : Int → Prop} {f : FuncId} {cs : List Value} (W0 : World) (o : Option Addr) (hC : CmpS W0 o f cs V K) (c n : Nat) (hn : n ≤ 1000000) : ∀ (d a m b : Nat) (xs : List Int) (W : World), b - a ≤ d → StI W0 o c n xs W → (∀ z ∈ xs, V z) → a < m → m < b → b ≤ n → Srt K xs a m → Srt K xs m b → StB xs a m b →
    Calls Try.prog 74 [.slice o n c, .int .i64 a, .int .i64 m, .int .i64 b, .func (.func f) #[] cs.toArray].toArray W (Ret fun v w' => v = .tuple #[] ∧ ∃ ys, StI W0 o c n ys w' ∧ Seg xs ys a b ∧ Srt K ys a b) := by
  intro d
  induction d with
  | zero => intro a m b xs W hd h hV ham hmb; omega
  | succ d ih =>
    intro a m b xs W hd h hV ham hmb hbn h1 h2 h3
    have hxl := h.2.1
    have hVx : ∀ k : Nat, k < n → V (xs.getD k 0) := fun k hk => hV _ (gd_mem (by omega))
    refine calls_of_sc 220 [(0, _), (1, _), (2, _), (3, _), (4, _)] Try.func74 rfl rfl rfl (enter_slots ⟨rfl, rfl, rfl, rfl, rfl, trivial⟩) ?_
    refine Sc.seq ?_
    refine Sc.seq ?_
    refine Sc.region ?_
    refine Sl.calm (Cm.move rfl) rfl ?_
    refine Sl.calm (Cm.move rfl) rfl ?_
    refine Sl.calm (Cm.sub64 rfl rfl (by omega)) rfl ?_
    refine Sl.fork (Cm.eql rfl rfl) rfl (fun h28 => ?_) (fun h28 => ?_)
    ·
      refine Sl.nil ?_
      refine At.weak [(0, _), (1, _), (2, _), (3, _), (4, _), (28, _)] ⟨rfl, rfl, rfl, rfl, rfl, rfl, trivial⟩ ?_
      refine At.go ?_
      refine Sc.cond_t rfl ?_
      refine Sc.seq ?_
      refine Sc.region ?_
      refine Sl.calm (Cm.move rfl) rfl ?_
      refine Sl.calm (Cm.assign rfl) rfl ?_
      refine Sl.nil ?_
      refine At.weak [(0, _), (1, _), (2, _), (3, _), (4, _), (10, _), (28, _)] ⟨rfl, rfl, rfl, rfl, rfl, rfl, rfl, trivial⟩ ?_
      refine At.go ?_
      refine Sc.seq ?_
      refine Sc.region ?_
      refine Sl.calm (Cm.move rfl) rfl ?_
      refine Sl.calm (Cm.assign rfl) rfl ?_
      refine Sl.nil ?_
      refine At.weak [(0, _), (1, _), (2, _), (3, _), (4, _), (10, _), (11, _), (28, _)] ⟨rfl, rfl, rfl, rfl, rfl, rfl, rfl, rfl, trivial⟩ ?_
      refine At.go ?_
      refine Sc.seq ?_
      refine Sc.block ?_
      refine Sc.loop (β := Nat × Nat) (fun ⟨i, j⟩ => [(0, .slice o n c), (1, .int .i64 a), (4, .func (.func f) #[] cs.toArray), (10, .int .i64 i), (11, .int .i64 j)]) (fun ⟨i, j⟩ w => (m ≤ i ∧ i ≤ j ∧ j ≤ b) ∧ StI W0 o c n xs w ∧ (m < i → ltS K (xs.getD (i - 1) 0) (xs.getD a 0)) ∧ (j < b → ltS K (xs.getD a 0) (xs.getD j 0))) (fun ⟨i, j⟩ => j - i) ⟨m, b⟩ ⟨rfl, rfl, rfl, rfl, rfl, trivial⟩ ⟨⟨by omega, by omega, by omega⟩, h, fun h => by omega, fun h => by omega⟩ ?_
      rintro ⟨i, j⟩ w4 ⟨⟨i1, i2, i3⟩, hz, g1, g2⟩
      refine Sc.seq ?_
      refine Sc.seq ?_
      refine Sc.region ?_
      refine Sl.calm (Cm.move rfl) rfl ?_
      refine Sl.calm (Cm.move rfl) rfl ?_
      refine Sl.fork (Cm.lss rfl rfl) rfl (fun h33 => ?_) (fun h33 => ?_)
      ·
        have hij : i < j := by omega
        refine Sl.nil ?_
        refine At.weak [(0, _), (1, _), (4, _), (10, _), (11, _), (33, _)] ⟨rfl, rfl, rfl, rfl, rfl, rfl, trivial⟩ ?_
        refine At.go ?_
        refine Sc.cond_t rfl ?_
        refine Sc.skip ?_
        refine At.go ?_
        refine Sc.block ?_
        refine Sc.seq ?_
        refine Sc.region ?_
        refine Sl.calm (Cm.move rfl) rfl ?_
        refine Sl.calm (Cm.move rfl) rfl ?_
        refine Sl.calm (Cm.add64 rfl rfl (by omega)) rfl ?_
        refine Sl.calm (Cm.convI_in (n := ((i : Int) + j)) is3 ty83 rfl (wrapU (by omega))) rfl ?_
        refine Sl.calm (Cm.shrU rfl rfl (by decide)) rfl ?_
        refine Sl.calm (Cm.convI_in (n := (((i + j) / 2 : Nat) : Int)) is83 ty3 rfl (halfI (by omega))) rfl ?_
        obtain ⟨q, hq⟩ : ∃ q : Nat, q = (i + j) / 2 := ⟨_, rfl⟩
        rw [← hq]
        refine Sl.calm (Cm.assign rfl) rfl ?_
        refine Sl.nil ?_
        refine At.weak [(0, _), (1, _), (4, _), (10, _), (11, _), (12, _), (33, _)] ⟨rfl, rfl, rfl, rfl, rfl, rfl, rfl, trivial⟩ ?_
        refine At.go ?_
        refine Sc.seq ?_
        refine Sc.draw 11 (fun H => Vw i64 H o c xs) [9] [0, 1, 2, 3, 4, 5, 6, 7, 8, 9, 10] mixed (by kernel_rfl) (hz.1.vw) ?_
        refine Sx.calm rfl rfl (Cm.move rfl) rfl ?_
        refine Sx.calm rfl rfl (Cm.move rfl) rfl ?_
        refine Sx.calm rfl rfl (Cm.move rfl) rfl ?_
        refine Sx.calm rfl rfl (Cm.indexAddr1 sl37 rfl rfl (by rw [← hxl]; exact hz.1.vw.non) (by omega)) rfl ?_
        refine Sx.calm rfl rfl (Cm.load sca3 rfl (fun H (hH : Vw i64 H o c xs) => hH.gz 0 q rfl (by omega))) rfl ?_
        refine Sx.calm rfl rfl (Cm.move rfl) rfl ?_
        refine Sx.calm rfl rfl (Cm.move rfl) rfl ?_
        refine Sx.calm rfl rfl (Cm.indexAddr1 sl37 rfl rfl (by rw [← hxl]; exact hz.1.vw.non) (by omega)) rfl ?_
        refine Sx.calm rfl rfl (Cm.load sca3 rfl (fun H (hH : Vw i64 H o c xs) => hH.gz 0 a rfl (by omega))) rfl ?_
        refine Sx.eff rfl rfl (Sl.callC hC.fn rfl rfl (hC.call _ (xs.getD q 0) (xs.getD a 0) (hz.draws 1).2.2 (hVx q (by omega)) (hVx a (by omega))) rfl ?_)
        intro v5 w5 hr5
        obtain ⟨rfl, hf5⟩ := hr5
        have hz5 : StI W0 o c n xs w5 := (hz.draws 1).grow hf5
        refine Sx.on (by exact hz5.1.vw) ?_
        refine Sx.fork rfl rfl (Cm.lss rfl rfl) rfl (fun h50 => ?_) (fun h50 => ?_)
        ·
          refine Sx.nil ?_
          refine At.weak [(0, _), (1, _), (4, _), (10, _), (11, _), (12, _), (33, _), (50, _)] ⟨rfl, rfl, rfl, rfl, rfl, rfl, rfl, rfl, trivial⟩ ?_
          refine At.go ?_
          refine Sc.cond_t rfl ?_
          refine Sc.region ?_
          refine Sl.calm (Cm.move rfl) rfl ?_
          refine Sl.calm (Cm.add64 rfl rfl (by omega)) rfl ?_
          refine Sl.calm (Cm.assign rfl) rfl ?_
          refine Sl.nil ?_
          refine At.block_normal ?_
          first
            | exact At.again ⟨q + 1, j⟩ ⟨rfl, rfl, rfl, rfl, rfl, trivial⟩ ⟨⟨by omega, by omega, by omega⟩, hz5, fun _ => ltS_yes h50, g2⟩ (by show j - (q + 1) < j - i; omega)
            | exact At.again ⟨i, q⟩ ⟨rfl, rfl, rfl, rfl, rfl, trivial⟩ ⟨⟨by omega, by omega, by omega⟩, hz5, g1, fun _ => ltS_no (h3 a q (Nat.le_refl _) ham (by omega) (by omega)) h50⟩ (by show q - i < j - i; omega)
        ·
          refine Sx.nil ?_
          refine At.weak [(0, _), (1, _), (4, _), (10, _), (11, _), (12, _), (33, _), (50, _)] ⟨rfl, rfl, rfl, rfl, rfl, rfl, rfl, rfl, trivial⟩ ?_
          refine At.go ?_
          refine Sc.cond_f rfl ?_
          refine Sc.region ?_
          refine Sl.calm (Cm.move rfl) rfl ?_
          refine Sl.calm (Cm.assign rfl) rfl ?_
          refine Sl.nil ?_
          refine At.block_normal ?_
          first
            | exact At.again ⟨q + 1, j⟩ ⟨rfl, rfl, rfl, rfl, rfl, trivial⟩ ⟨⟨by omega, by omega, by omega⟩, hz5, fun _ => ltS_yes h50, g2⟩ (by show j - (q + 1) < j - i; omega)
            | exact At.again ⟨i, q⟩ ⟨rfl, rfl, rfl, rfl, rfl, trivial⟩ ⟨⟨by omega, by omega, by omega⟩, hz5, g1, fun _ => ltS_no (h3 a q (Nat.le_refl _) ham (by omega) (by omega)) h50⟩ (by show q - i < j - i; omega)
      ·
        have hije : i = j := by omega
        subst hije
        refine Sl.nil ?_
        refine At.weak [(0, _), (1, _), (4, _), (10, _), (11, _), (33, _)] ⟨rfl, rfl, rfl, rfl, rfl, rfl, trivial⟩ ?_
        refine At.go ?_
        refine Sc.cond_f rfl ?_
        refine Sc.exit ?_
        refine At.then_exit ?_
        refine At.then_exit ?_
        refine At.block_hit ?_
        refine At.go ?_
        refine Sc.seq ?_
        refine Sc.seq ?_
        refine Sc.region ?_
        refine Sl.calm (Cm.move rfl) rfl ?_
        refine Sl.calm (Cm.assign rfl) rfl ?_
        refine Sl.nil ?_
        refine At.weak [(0, _), (1, _), (4, _), (10, _), (11, _), (13, _), (33, _)] ⟨rfl, rfl, rfl, rfl, rfl, rfl, rfl, trivial⟩ ?_
        refine At.go ?_
        refine Sc.block ?_
        refine Sc.loop (β := Nat × List Int) (fun ⟨k, ys⟩ => [(0, .slice o n c), (10, .int .i64 i), (13, .int .i64 k)]) (fun ⟨k, ys⟩ w => (a ≤ k ∧ k ≤ i - 1) ∧ StI W0 o c n ys w ∧ ys.Perm xs ∧ ∀ p, ys.getD p 0 = xs.getD (ux a k p) 0) (fun ⟨k, ys⟩ => i - 1 - k) ⟨a, xs⟩ ⟨rfl, rfl, rfl, trivial⟩ ⟨⟨Nat.le_refl _, by omega⟩, hz, List.Perm.refl _, fun p => by rw [ux_zero]⟩ ?_
        rintro ⟨k, ys⟩ w4 ⟨⟨k1, k2⟩, hy, hyp, hyk⟩
        refine Sc.seq ?_
        refine Sc.seq ?_
        refine Sc.region ?_
        refine Sl.calm (Cm.move rfl) rfl ?_
        refine Sl.calm (Cm.move rfl) rfl ?_
        refine Sl.calm (Cm.sub64 rfl rfl (by omega)) rfl ?_
        refine Sl.fork (Cm.lss rfl rfl) rfl (fun h58 => ?_) (fun h58 => ?_)
        ·
          have hyl := hy.2.1
          refine Sl.nil ?_
          refine At.weak [(0, _), (10, _), (13, _), (58, _)] ⟨rfl, rfl, rfl, rfl, trivial⟩ ?_
          refine At.go ?_
          refine Sc.cond_t rfl ?_
          refine Sc.skip ?_
          refine At.go ?_
          refine Sc.seq ?_
          refine Sc.block ?_
          refine Sc.drawZ 15 [9, 13] (fun H => Vw i64 H o c ys) [15, 17] [0, 1, 2, 3, 4, 5, 6, 7, 8, 9, 10, 11, 12, 13, 14] (.alt 15 [16] (.alt 17 [] .fin .stop) .stop) mixed (by kernel_rfl) (hy.1.vw) ?_
          refine Sz.calm rfl rfl (Cm.move rfl) rfl ?_
          refine Sz.calm rfl rfl (Cm.move rfl) rfl ?_
          refine Sz.calm rfl rfl (Cm.move rfl) rfl ?_
          refine Sz.calm rfl rfl (Cm.move rfl) rfl ?_
          refine Sz.calm rfl rfl (Cm.add64 rfl rfl (by omega)) rfl ?_
          refine Sz.calm rfl rfl (Cm.move rfl) rfl ?_
          refine Sz.calm rfl rfl (Cm.move rfl) rfl ?_
          refine Sz.calm rfl rfl (Cm.add64 rfl rfl (by omega)) rfl ?_
          refine Sz.calm rfl rfl (Cm.indexAddr1 sl37 rfl rfl (by rw [← hy.2.1]; exact hy.1.vw.non) (by omega)) rfl ?_
          refine Sz.calm rfl rfl (Cm.load sca3 rfl (fun H (hH : Vw i64 H o c ys) => hH.gz 0 (k + 1) (by omega) (by omega))) rfl ?_
          refine Sz.calm rfl rfl (Cm.move rfl) rfl ?_
          refine Sz.calm rfl rfl (Cm.move rfl) rfl ?_
          refine Sz.calm rfl rfl (Cm.indexAddr1 sl37 rfl rfl (by rw [← hy.2.1]; exact hy.1.vw.non) (by omega)) rfl ?_
          refine Sz.calm rfl rfl (Cm.load sca3 rfl (fun H (hH : Vw i64 H o c ys) => hH.gz 0 k rfl (by omega))) rfl ?_
          refine Sz.calm rfl rfl (Cm.indexAddr1 sl37 rfl rfl (by rw [← hy.2.1]; exact hy.1.vw.non) (by omega)) rfl ?_
          refine Sz.alt ?_ ?_
          ·
            refine Sz.eff rfl rfl (Sl.storeRow i64_oneS sca3 (z := (k : Int)) (u := ys.getD (k + 1) 0) rfl rfl (hy.draws 1).1 (by omega) ?_)
            intro w6 ho6 hs6 hf6
            refine Sz.off rfl ?_
            refine Sz.calm rfl rfl (Cm.indexAddr1 sl37 rfl rfl (by rw [← hy.2.1]; exact hy.1.vw.non) (by omega)) rfl ?_
            refine Sz.alt ?_ ?_
            ·
              refine Sz.eff rfl rfl (Sl.storeRow i64_oneS sca3 (z := (k : Int) + 1) (u := ys.getD k 0) rfl rfl ho6 (by rw [List.length_set]; omega) ?_)
              intro w7 ho7 hs7 hf7
              have e2 : ((k : Int) + 1).toNat = k + 1 := by omega
              rw [e2] at ho7
              refine Sz.off rfl ?_
              refine Sz.nil ?_
              refine At.block_normal ?_
              refine At.weak [(0, _), (10, _), (13, _), (58, _)] ⟨rfl, rfl, rfl, rfl, trivial⟩ ?_
              refine At.go ?_
              refine Sc.region ?_
              refine Sl.calm (Cm.move rfl) rfl ?_
              refine Sl.calm (Cm.add64 rfl rfl (by omega)) rfl ?_
              refine Sl.calm (Cm.assign rfl) rfl ?_
              refine Sl.nil ?_
              exact At.again ⟨k + 1, swapL ys k (k + 1)⟩ ⟨rfl, rfl, rfl, trivial⟩ ⟨⟨by omega, by omega⟩, ⟨ho7, by rw [swap_len]; exact hyl, ((hy.2.2.draws 1).trans hf6).trans hf7⟩, (swap_perm (by omega) (by omega)).trans hyp, fun p => by rw [gd_swap (by omega) (by omega), hyk, ux_succ k1]⟩ (by show i - 1 - (k + 1) < i - 1 - k; omega)
            exact Sz.stop
          exact Sz.stop
        ·
          have hke : k = i - 1 := by omega
          refine Sl.nil ?_
          refine At.weak [(0, _), (10, _), (13, _), (58, _)] ⟨rfl, rfl, rfl, rfl, trivial⟩ ?_
          refine At.go ?_
          refine Sc.cond_f rfl ?_
          refine Sc.exit ?_
          refine At.then_exit ?_
          refine At.then_exit ?_
          refine At.block_hit ?_
          refine At.go ?_
          refine Sc.ret ?_
          refine At.then_ret ?_
          refine At.ret0 rfl ?_
          have hma : m = a + 1 := by omega
          rw [hke] at hyk
          refine ⟨_, rfl, rfl, ys, hy, seg_of hyp hyk (fun p hp => by have := ux_spec a (i - 1) p; omega) (fun p p1 p2 => by have := ux_spec a (i - 1) p; omega), ?_⟩
          rw [hma] at h2 g1 i1
          exact up_srt h2 i1 i3 g1 g2 hyk
    ·
      refine Sl.nil ?_
      refine At.weak [(0, _), (1, _), (2, _), (3, _), (4, _), (28, _)] ⟨rfl, rfl, rfl, rfl, rfl, rfl, trivial⟩ ?_
      refine At.go ?_
      refine Sc.cond_f rfl ?_
      refine Sc.skip ?_
      refine At.go ?_
      refine Sc.seq ?_
      refine Sc.seq ?_
      refine Sc.region ?_
      refine Sl.calm (Cm.move rfl) rfl ?_
      refine Sl.calm (Cm.move rfl) rfl ?_
      refine Sl.calm (Cm.sub64 rfl rfl (by omega)) rfl ?_
      refine Sl.fork (Cm.eql rfl rfl) rfl (fun h80 => ?_) (fun h80 => ?_)
      ·
        refine Sl.nil ?_
        refine At.weak [(0, _), (1, _), (2, _), (3, _), (4, _), (28, _), (80, _)] ⟨rfl, rfl, rfl, rfl, rfl, rfl, rfl, trivial⟩ ?_
        refine At.go ?_
        refine Sc.cond_t rfl ?_
        refine Sc.seq ?_
        refine Sc.region ?_
        refine Sl.calm (Cm.move rfl) rfl ?_
        refine Sl.calm (Cm.assign rfl) rfl ?_
        refine Sl.nil ?_
        refine At.weak [(0, _), (1, _), (2, _), (3, _), (4, _), (14, _), (28, _), (80, _)] ⟨rfl, rfl, rfl, rfl, rfl, rfl, rfl, rfl, trivial⟩ ?_
        refine At.go ?_
        refine Sc.seq ?_
        refine Sc.region ?_
        refine Sl.calm (Cm.move rfl) rfl ?_
        refine Sl.calm (Cm.assign rfl) rfl ?_
        refine Sl.nil ?_
        refine At.weak [(0, _), (1, _), (2, _), (3, _), (4, _), (14, _), (15, _), (28, _), (80, _)] ⟨rfl, rfl, rfl, rfl, rfl, rfl, rfl, rfl, rfl, trivial⟩ ?_
        refine At.go ?_
        refine Sc.seq ?_
        refine Sc.block ?_
        refine Sc.loop (β := Nat × Nat) (fun ⟨i, j⟩ => [(0, .slice o n c), (2, .int .i64 m), (4, .func (.func f) #[] cs.toArray), (14, .int .i64 i), (15, .int .i64 j)]) (fun ⟨i, j⟩ w => (a ≤ i ∧ i ≤ j ∧ j ≤ m) ∧ StI W0 o c n xs w ∧ (a < i → ltS K (xs.getD (i - 1) 0) (xs.getD m 0)) ∧ (j < m → ltS K (xs.getD m 0) (xs.getD j 0))) (fun ⟨i, j⟩ => j - i) ⟨a, m⟩ ⟨rfl, rfl, rfl, rfl, rfl, trivial⟩ ⟨⟨by omega, by omega, by omega⟩, h, fun h => by omega, fun h => by omega⟩ ?_
        rintro ⟨i, j⟩ w4 ⟨⟨i1, i2, i3⟩, hz, g1, g2⟩
        refine Sc.seq ?_
        refine Sc.seq ?_
        refine Sc.region ?_
        refine Sl.calm (Cm.move rfl) rfl ?_
        refine Sl.calm (Cm.move rfl) rfl ?_
        refine Sl.fork (Cm.lss rfl rfl) rfl (fun h85 => ?_) (fun h85 => ?_)
        ·
          have hij : i < j := by omega
          refine Sl.nil ?_
          refine At.weak [(0, _), (2, _), (4, _), (14, _), (15, _), (85, _)] ⟨rfl, rfl, rfl, rfl, rfl, rfl, trivial⟩ ?_
          refine At.go ?_
          refine Sc.cond_t rfl ?_
          refine Sc.skip ?_
          refine At.go ?_
          refine Sc.block ?_
          refine Sc.seq ?_
          refine Sc.region ?_
          refine Sl.calm (Cm.move rfl) rfl ?_
          refine Sl.calm (Cm.move rfl) rfl ?_
          refine Sl.calm (Cm.add64 rfl rfl (by omega)) rfl ?_
          refine Sl.calm (Cm.convI_in (n := ((i : Int) + j)) is3 ty83 rfl (wrapU (by omega))) rfl ?_
          refine Sl.calm (Cm.shrU rfl rfl (by decide)) rfl ?_
          refine Sl.calm (Cm.convI_in (n := (((i + j) / 2 : Nat) : Int)) is83 ty3 rfl (halfI (by omega))) rfl ?_
          obtain ⟨q, hq⟩ : ∃ q : Nat, q = (i + j) / 2 := ⟨_, rfl⟩
          rw [← hq]
          refine Sl.calm (Cm.assign rfl) rfl ?_
          refine Sl.nil ?_
          refine At.weak [(0, _), (2, _), (4, _), (14, _), (15, _), (16, _), (85, _)] ⟨rfl, rfl, rfl, rfl, rfl, rfl, rfl, trivial⟩ ?_
          refine At.go ?_
          refine Sc.seq ?_
          refine Sc.draw 12 (fun H => Vw i64 H o c xs) [9] [0, 1, 2, 3, 4, 5, 6, 7, 8, 9, 10, 11] mixed (by kernel_rfl) (hz.1.vw) ?_
          refine Sx.calm rfl rfl (Cm.move rfl) rfl ?_
          refine Sx.calm rfl rfl (Cm.move rfl) rfl ?_
          refine Sx.calm rfl rfl (Cm.move rfl) rfl ?_
          refine Sx.calm rfl rfl (Cm.indexAddr1 sl37 rfl rfl (by rw [← hxl]; exact hz.1.vw.non) (by omega)) rfl ?_
          refine Sx.calm rfl rfl (Cm.load sca3 rfl (fun H (hH : Vw i64 H o c xs) => hH.gz 0 m rfl (by omega))) rfl ?_
          refine Sx.calm rfl rfl (Cm.move rfl) rfl ?_
          refine Sx.calm rfl rfl (Cm.move rfl) rfl ?_
          refine Sx.calm rfl rfl (Cm.indexAddr1 sl37 rfl rfl (by rw [← hxl]; exact hz.1.vw.non) (by omega)) rfl ?_
          refine Sx.calm rfl rfl (Cm.load sca3 rfl (fun H (hH : Vw i64 H o c xs) => hH.gz 0 q rfl (by omega))) rfl ?_
          refine Sx.eff rfl rfl (Sl.callC hC.fn rfl rfl (hC.call _ (xs.getD m 0) (xs.getD q 0) (hz.draws 1).2.2 (hVx m (by omega)) (hVx q (by omega))) rfl ?_)
          intro v5 w5 hr5
          obtain ⟨rfl, hf5⟩ := hr5
          have hz5 : StI W0 o c n xs w5 := (hz.draws 1).grow hf5
          refine Sx.on (by exact hz5.1.vw) ?_
          refine Sx.fork rfl rfl (Cm.lss rfl rfl) rfl (fun h102 => ?_) (fun h102 => ?_)
          ·
            refine Sx.calm rfl rfl (Cm.not rfl) rfl ?_
            refine Sx.nil ?_
            refine At.weak [(0, _), (2, _), (4, _), (14, _), (15, _), (16, _), (85, _), (103, _)] ⟨rfl, rfl, rfl, rfl, rfl, rfl, rfl, rfl, trivial⟩ ?_
            refine At.go ?_
            refine Sc.cond_f rfl ?_
            refine Sc.region ?_
            refine Sl.calm (Cm.move rfl) rfl ?_
            refine Sl.calm (Cm.assign rfl) rfl ?_
            refine Sl.nil ?_
            refine At.block_normal ?_
            first
              | exact At.again ⟨i, q⟩ ⟨rfl, rfl, rfl, rfl, rfl, trivial⟩ ⟨⟨by omega, by omega, by omega⟩, hz5, g1, fun _ => ltS_yes h102⟩ (by show q - i < j - i; omega)
              | exact At.again ⟨q + 1, j⟩ ⟨rfl, rfl, rfl, rfl, rfl, trivial⟩ ⟨⟨by omega, by omega, by omega⟩, hz5, fun _ => ltS_no (h3 q m (by omega) (by omega) (Nat.le_refl _) hmb) h102, g2⟩ (by show j - (q + 1) < j - i; omega)
          ·
            refine Sx.calm rfl rfl (Cm.not rfl) rfl ?_
            refine Sx.nil ?_
            refine At.weak [(0, _), (2, _), (4, _), (14, _), (15, _), (16, _), (85, _), (103, _)] ⟨rfl, rfl, rfl, rfl, rfl, rfl, rfl, rfl, trivial⟩ ?_
            refine At.go ?_
            refine Sc.cond_t rfl ?_
            refine Sc.region ?_
            refine Sl.calm (Cm.move rfl) rfl ?_
            refine Sl.calm (Cm.add64 rfl rfl (by omega)) rfl ?_
            refine Sl.calm (Cm.assign rfl) rfl ?_
            refine Sl.nil ?_
            refine At.block_normal ?_
            first
              | exact At.again ⟨i, q⟩ ⟨rfl, rfl, rfl, rfl, rfl, trivial⟩ ⟨⟨by omega, by omega, by omega⟩, hz5, g1, fun _ => ltS_yes h102⟩ (by show q - i < j - i; omega)
              | exact At.again ⟨q + 1, j⟩ ⟨rfl, rfl, rfl, rfl, rfl, trivial⟩ ⟨⟨by omega, by omega, by omega⟩, hz5, fun _ => ltS_no (h3 q m (by omega) (by omega) (Nat.le_refl _) hmb) h102, g2⟩ (by show j - (q + 1) < j - i; omega)
        ·
          have hije : i = j := by omega
          subst hije
          refine Sl.nil ?_
          refine At.weak [(0, _), (2, _), (4, _), (14, _), (15, _), (85, _)] ⟨rfl, rfl, rfl, rfl, rfl, rfl, trivial⟩ ?_
          refine At.go ?_
          refine Sc.cond_f rfl ?_
          refine Sc.exit ?_
          refine At.then_exit ?_
          refine At.then_exit ?_
          refine At.block_hit ?_
          refine At.go ?_
          refine Sc.seq ?_
          refine Sc.seq ?_
          refine Sc.region ?_
          refine Sl.calm (Cm.move rfl) rfl ?_
          refine Sl.calm (Cm.assign rfl) rfl ?_
          refine Sl.nil ?_
          refine At.weak [(0, _), (2, _), (4, _), (14, _), (15, _), (17, _), (85, _)] ⟨rfl, rfl, rfl, rfl, rfl, rfl, rfl, trivial⟩ ?_
          refine At.go ?_
          refine Sc.block ?_
          refine Sc.loop (β := Nat × List Int) (fun ⟨k, ys⟩ => [(0, .slice o n c), (14, .int .i64 i), (17, .int .i64 k)]) (fun ⟨k, ys⟩ w => (i ≤ k ∧ k ≤ m) ∧ StI W0 o c n ys w ∧ ys.Perm xs ∧ ∀ p, ys.getD p 0 = xs.getD (dx k m p) 0) (fun ⟨k, ys⟩ => k) ⟨m, xs⟩ ⟨rfl, rfl, rfl, trivial⟩ ⟨⟨by omega, Nat.le_refl _⟩, hz, List.Perm.refl _, fun p => by rw [dx_zero]⟩ ?_
          rintro ⟨k, ys⟩ w4 ⟨⟨k1, k2⟩, hy, hyp, hyk⟩
          refine Sc.seq ?_
          refine Sc.seq ?_
          refine Sc.region ?_
          refine Sl.calm (Cm.move rfl) rfl ?_
          refine Sl.calm (Cm.move rfl) rfl ?_
          refine Sl.fork (Cm.gtr rfl rfl) rfl (fun h110 => ?_) (fun h110 => ?_)
          ·
            have hyl := hy.2.1
            refine Sl.nil ?_
            refine At.weak [(0, _), (14, _), (17, _), (110, _)] ⟨rfl, rfl, rfl, rfl, trivial⟩ ?_
            refine At.go ?_
            refine Sc.cond_t rfl ?_
            refine Sc.skip ?_
            refine At.go ?_
            refine Sc.seq ?_
            refine Sc.block ?_
            refine Sc.drawZ 15 [9, 13] (fun H => Vw i64 H o c ys) [15, 17] [0, 1, 2, 3, 4, 5, 6, 7, 8, 9, 10, 11, 12, 13, 14] (.alt 15 [16] (.alt 17 [] .fin .stop) .stop) mixed (by kernel_rfl) (hy.1.vw) ?_
            refine Sz.calm rfl rfl (Cm.move rfl) rfl ?_
            refine Sz.calm rfl rfl (Cm.move rfl) rfl ?_
            refine Sz.calm rfl rfl (Cm.move rfl) rfl ?_
            refine Sz.calm rfl rfl (Cm.move rfl) rfl ?_
            refine Sz.calm rfl rfl (Cm.sub64 rfl rfl (by omega)) rfl ?_
            refine Sz.calm rfl rfl (Cm.move rfl) rfl ?_
            refine Sz.calm rfl rfl (Cm.move rfl) rfl ?_
            refine Sz.calm rfl rfl (Cm.sub64 rfl rfl (by omega)) rfl ?_
            refine Sz.calm rfl rfl (Cm.indexAddr1 sl37 rfl rfl (by rw [← hy.2.1]; exact hy.1.vw.non) (by omega)) rfl ?_
            refine Sz.calm rfl rfl (Cm.load sca3 rfl (fun H (hH : Vw i64 H o c ys) => hH.gz 0 (k - 1) (by omega) (by omega))) rfl ?_
            refine Sz.calm rfl rfl (Cm.move rfl) rfl ?_
            refine Sz.calm rfl rfl (Cm.move rfl) rfl ?_
            refine Sz.calm rfl rfl (Cm.indexAddr1 sl37 rfl rfl (by rw [← hy.2.1]; exact hy.1.vw.non) (by omega)) rfl ?_
            refine Sz.calm rfl rfl (Cm.load sca3 rfl (fun H (hH : Vw i64 H o c ys) => hH.gz 0 k rfl (by omega))) rfl ?_
            refine Sz.calm rfl rfl (Cm.indexAddr1 sl37 rfl rfl (by rw [← hy.2.1]; exact hy.1.vw.non) (by omega)) rfl ?_
            refine Sz.alt ?_ ?_
            ·
              refine Sz.eff rfl rfl (Sl.storeRow i64_oneS sca3 (z := (k : Int)) (u := ys.getD (k - 1) 0) rfl rfl (hy.draws 1).1 (by omega) ?_)
              intro w6 ho6 hs6 hf6
              refine Sz.off rfl ?_
              refine Sz.calm rfl rfl (Cm.indexAddr1 sl37 rfl rfl (by rw [← hy.2.1]; exact hy.1.vw.non) (by omega)) rfl ?_
              refine Sz.alt ?_ ?_
              ·
                refine Sz.eff rfl rfl (Sl.storeRow i64_oneS sca3 (z := (k : Int) - 1) (u := ys.getD k 0) rfl rfl ho6 (by rw [List.length_set]; omega) ?_)
                intro w7 ho7 hs7 hf7
                have e2 : ((k : Int) - 1).toNat = k - 1 := by omega
                rw [e2] at ho7
                refine Sz.off rfl ?_
                refine Sz.nil ?_
                refine At.block_normal ?_
                refine At.weak [(0, _), (14, _), (17, _), (110, _)] ⟨rfl, rfl, rfl, rfl, trivial⟩ ?_
                refine At.go ?_
                refine Sc.region ?_
                refine Sl.calm (Cm.move rfl) rfl ?_
                refine Sl.calm (Cm.sub64 rfl rfl (by omega)) rfl ?_
                refine Sl.calm (Cm.assign rfl) rfl ?_
                refine Sl.nil ?_
                exact At.again ⟨k - 1, swapL ys k (k - 1)⟩ ⟨rfl, rfl, congrArg (fun z : Int => some (Value.int .i64 z)) (by omega), trivial⟩ ⟨⟨by omega, by omega⟩, ⟨ho7, by rw [swap_len]; exact hyl, ((hy.2.2.draws 1).trans hf6).trans hf7⟩, (swap_perm (by omega) (by omega)).trans hyp, fun p => by have e := dx_succ (k := k - 1) (m := m) (p := p) (by omega); rw [show k - 1 + 1 = k by omega] at e; rw [gd_swap (by omega) (by omega), hyk, e]⟩ (by show k - 1 < k; omega)
              exact Sz.stop
            exact Sz.stop
          ·
            have hke : k = i := by omega
            refine Sl.nil ?_
            refine At.weak [(0, _), (14, _), (17, _), (110, _)] ⟨rfl, rfl, rfl, rfl, trivial⟩ ?_
            refine At.go ?_
            refine Sc.cond_f rfl ?_
            refine Sc.exit ?_
            refine At.then_exit ?_
            refine At.then_exit ?_
            refine At.block_hit ?_
            refine At.go ?_
            refine Sc.ret ?_
            refine At.then_ret ?_
            refine At.ret0 rfl ?_
            have hbm : b = m + 1 := by omega
            rw [hke] at hyk
            refine ⟨_, rfl, rfl, ys, hy, seg_of hyp hyk (fun p hp => by have := dx_spec i m p; omega) (fun p p1 p2 => by have := dx_spec i m p; omega), ?_⟩
            rw [hbm]
            exact dn_srt h1 i1 i3 g1 g2 hyk
      ·
        refine Sl.nil ?_
        refine At.weak [(0, _), (1, _), (2, _), (3, _), (4, _), (28, _), (80, _)] ⟨rfl, rfl, rfl, rfl, rfl, rfl, rfl, trivial⟩ ?_
        refine At.go ?_
        refine Sc.cond_f rfl ?_
        refine Sc.skip ?_
        refine At.go ?_
        refine Sc.seq ?_
        refine Sc.region ?_
        refine Sl.calm (Cm.move rfl) rfl ?_
        refine Sl.calm (Cm.move rfl) rfl ?_
        refine Sl.calm (Cm.add64 rfl rfl (by omega)) rfl ?_
        refine Sl.calm (Cm.convI_in (n := ((a : Int) + b)) is3 ty83 rfl (wrapU (by omega))) rfl ?_
        refine Sl.calm (Cm.shrU rfl rfl (by decide)) rfl ?_
        refine Sl.calm (Cm.convI_in (n := (((a + b) / 2 : Nat) : Int)) is83 ty3 rfl (halfI (by omega))) rfl ?_
        obtain ⟨md, hmd⟩ : ∃ md : Nat, md = (a + b) / 2 := ⟨_, rfl⟩
        rw [← hmd]
        refine Sl.calm (Cm.assign rfl) rfl ?_
        refine Sl.nil ?_
        refine At.weak [(0, _), (1, _), (2, _), (3, _), (4, _), (18, _), (28, _), (80, _)] ⟨rfl, rfl, rfl, rfl, rfl, rfl, rfl, rfl, trivial⟩ ?_
        refine At.go ?_
        refine Sc.seq ?_
        refine Sc.region ?_
        refine Sl.calm (Cm.move rfl) rfl ?_
        refine Sl.calm (Cm.move rfl) rfl ?_
        refine Sl.calm (Cm.add64 rfl rfl (by omega)) rfl ?_
        refine Sl.calm (Cm.assign rfl) rfl ?_
        refine Sl.nil ?_
        refine At.weak [(0, _), (1, _), (2, _), (3, _), (4, _), (18, _), (19, _), (28, _), (80, _)] ⟨rfl, rfl, rfl, rfl, rfl, rfl, rfl, rfl, rfl, trivial⟩ ?_
        refine At.go ?_
        refine Sc.seq ?_
        refine Sc.region ?_
        refine Sl.calm (Cm.assign rfl) rfl ?_
        refine Sl.calm (Cm.assign rfl) rfl ?_
        refine Sl.nil ?_
        refine At.go ?_
        refine Sc.cut (β := Nat × Nat) (fun ⟨S0, R0⟩ => [(0, .slice o n c), (1, .int .i64 a), (2, .int .i64 m), (3, .int .i64 b), (4, .func (.func f) #[] cs.toArray), (18, .int .i64 md), (19, .int .i64 ((md : Int) + m)), (20, .int .i64 S0), (21, .int .i64 R0)]) (fun ⟨S0, R0⟩ w => ((md < m ∧ S0 = md + m - b ∧ R0 = md) ∨ (¬ md < m ∧ S0 = a ∧ R0 = m)) ∧ w = W) ?_ ?_
        ·
          refine Sc.seq ?_
          refine Sc.region ?_
          refine Sl.calm (Cm.move rfl) rfl ?_
          refine Sl.calm (Cm.move rfl) rfl ?_
          refine Sl.fork (Cm.gtr rfl rfl) rfl (fun h140 => ?_) (fun h140 => ?_)
          ·
            refine Sl.nil ?_
            refine At.weak [(0, _), (1, _), (2, _), (3, _), (4, _), (18, _), (19, _), (20, _), (21, _), (28, _), (80, _), (140, _)] ⟨rfl, rfl, rfl, rfl, rfl, rfl, rfl, rfl, rfl, rfl, rfl, rfl, trivial⟩ ?_
            refine At.go ?_
            refine Sc.cond_t rfl ?_
            refine Sc.seq ?_
            refine Sc.region ?_
            refine Sl.calm (Cm.move rfl) rfl ?_
            refine Sl.calm (Cm.move rfl) rfl ?_
            refine Sl.calm (Cm.sub64 rfl rfl (by omega)) rfl ?_
            refine Sl.calm (Cm.assign rfl) rfl ?_
            refine Sl.nil ?_
            refine At.weak [(0, _), (1, _), (2, _), (3, _), (4, _), (18, _), (19, _), (20, _), (21, _), (28, _), (80, _), (140, _)] ⟨rfl, rfl, rfl, rfl, rfl, rfl, rfl, rfl, rfl, rfl, rfl, rfl, trivial⟩ ?_
            refine At.go ?_
            refine Sc.region ?_
            refine Sl.calm (Cm.move rfl) rfl ?_
            refine Sl.calm (Cm.assign rfl) rfl ?_
            refine Sl.nil ?_
            first
              | exact At.cut ⟨md + m - b, md⟩ ⟨rfl, rfl, rfl, rfl, rfl, rfl, rfl, congrArg (fun z : Int => some (Value.int .i64 z)) (by omega), rfl, trivial⟩ ⟨.inl ⟨by omega, rfl, rfl⟩, rfl⟩
              | exact At.cut ⟨a, m⟩ ⟨rfl, rfl, rfl, rfl, rfl, rfl, rfl, rfl, rfl, trivial⟩ ⟨.inr ⟨by omega, rfl, rfl⟩, rfl⟩
          ·
            refine Sl.nil ?_
            refine At.weak [(0, _), (1, _), (2, _), (3, _), (4, _), (18, _), (19, _), (20, _), (21, _), (28, _), (80, _), (140, _)] ⟨rfl, rfl, rfl, rfl, rfl, rfl, rfl, rfl, rfl, rfl, rfl, rfl, trivial⟩ ?_
            refine At.go ?_
            refine Sc.cond_f rfl ?_
            refine Sc.seq ?_
            refine Sc.region ?_
            refine Sl.calm (Cm.move rfl) rfl ?_
            refine Sl.calm (Cm.assign rfl) rfl ?_
            refine Sl.nil ?_
            refine At.weak [(0, _), (1, _), (2, _), (3, _), (4, _), (18, _), (19, _), (20, _), (21, _), (28, _), (80, _), (140, _)] ⟨rfl, rfl, rfl, rfl, rfl, rfl, rfl, rfl, rfl, rfl, rfl, rfl, trivial⟩ ?_
            refine At.go ?_
            refine Sc.region ?_
            refine Sl.calm (Cm.move rfl) rfl ?_
            refine Sl.calm (Cm.assign rfl) rfl ?_
            refine Sl.nil ?_
            first
              | exact At.cut ⟨md + m - b, md⟩ ⟨rfl, rfl, rfl, rfl, rfl, rfl, rfl, congrArg (fun z : Int => some (Value.int .i64 z)) (by omega), rfl, trivial⟩ ⟨.inl ⟨by omega, rfl, rfl⟩, rfl⟩
              | exact At.cut ⟨a, m⟩ ⟨rfl, rfl, rfl, rfl, rfl, rfl, rfl, rfl, rfl, trivial⟩ ⟨.inr ⟨by omega, rfl, rfl⟩, rfl⟩
        ·
          rintro ⟨S0, R0⟩ wq ⟨hSR, hwq⟩
          subst wq
          refine Sc.seq ?_
          refine Sc.region ?_
          refine Sl.calm (Cm.move rfl) rfl ?_
          refine Sl.calm (Cm.sub64 rfl rfl (by omega)) rfl ?_
          refine Sl.calm (Cm.assign rfl) rfl ?_
          refine Sl.nil ?_
          refine At.weak [(0, _), (1, _), (2, _), (3, _), (4, _), (18, _), (19, _), (20, _), (21, _), (22, _)] ⟨rfl, rfl, rfl, rfl, rfl, rfl, rfl, rfl, rfl, rfl, trivial⟩ ?_
          refine At.go ?_
          refine Sc.seq ?_
          refine Sc.block ?_
          refine Sc.loop (β := Nat × Nat) (fun ⟨s, r⟩ => [(0, .slice o n c), (1, .int .i64 a), (2, .int .i64 m), (3, .int .i64 b), (4, .func (.func f) #[] cs.toArray), (18, .int .i64 md), (19, .int .i64 ((md : Int) + m)), (20, .int .i64 s), (21, .int .i64 r), (22, .int .i64 ((md : Int) + m - 1))]) (fun ⟨s, r⟩ w => S0 ≤ s ∧ s ≤ r ∧ r ≤ R0 ∧ StI W0 o c n xs w ∧ (S0 < s → ltS K (xs.getD (s - 1) 0) (xs.getD (md + m - s) 0)) ∧ (r < R0 → ltS K (xs.getD (md + m - 1 - r) 0) (xs.getD r 0))) (fun ⟨s, r⟩ => r - s) ⟨S0, R0⟩ ⟨rfl, rfl, rfl, rfl, rfl, rfl, rfl, rfl, rfl, rfl, trivial⟩ ⟨Nat.le_refl _, by omega, Nat.le_refl _, h, fun h => by omega, fun h => by omega⟩ ?_
          rintro ⟨s, r⟩ w4 ⟨hs0, hsr0, hrR, hz, g1, g2⟩
          refine Sc.seq ?_
          refine Sc.seq ?_
          refine Sc.region ?_
          refine Sl.calm (Cm.move rfl) rfl ?_
          refine Sl.calm (Cm.move rfl) rfl ?_
          refine Sl.fork (Cm.lss rfl rfl) rfl (fun h151 => ?_) (fun h151 => ?_)
          ·
            have hsr : s < r := by omega
            refine Sl.nil ?_
            refine At.weak [(0, _), (1, _), (2, _), (3, _), (4, _), (18, _), (19, _), (20, _), (21, _), (22, _), (151, _)] ⟨rfl, rfl, rfl, rfl, rfl, rfl, rfl, rfl, rfl, rfl, rfl, trivial⟩ ?_
            refine At.go ?_
            refine Sc.cond_t rfl ?_
            refine Sc.skip ?_
            refine At.go ?_
            refine Sc.block ?_
            refine Sc.seq ?_
            refine Sc.region ?_
            refine Sl.calm (Cm.move rfl) rfl ?_
            refine Sl.calm (Cm.move rfl) rfl ?_
            refine Sl.calm (Cm.add64 rfl rfl (by omega)) rfl ?_
            refine Sl.calm (Cm.convI_in (n := ((s : Int) + r)) is3 ty83 rfl (wrapU (by omega))) rfl ?_
            refine Sl.calm (Cm.shrU rfl rfl (by decide)) rfl ?_
            refine Sl.calm (Cm.convI_in (n := (((s + r) / 2 : Nat) : Int)) is83 ty3 rfl (halfI (by omega))) rfl ?_
            obtain ⟨q, hq⟩ : ∃ q : Nat, q = (s + r) / 2 := ⟨_, rfl⟩
            rw [← hq]
            have hqa : a ≤ q ∧ q < m ∧ m ≤ md + m - 1 - q ∧ md + m - 1 - q < b ∧ q ≤ md + m - 1 := by omega
            refine Sl.calm (Cm.assign rfl) rfl ?_
            refine Sl.nil ?_
            refine At.weak [(0, _), (1, _), (2, _), (3, _), (4, _), (18, _), (19, _), (20, _), (21, _), (22, _), (23, _), (151, _)] ⟨rfl, rfl, rfl, rfl, rfl, rfl, rfl, rfl, rfl, rfl, rfl, rfl, trivial⟩ ?_
            refine At.go ?_
            refine Sc.seq ?_
            refine Sc.draw 14 (fun H => Vw i64 H o c xs) [11] [0, 1, 2, 3, 4, 5, 6, 7, 8, 9, 10, 11, 12, 13] mixed (by kernel_rfl) (hz.1.vw) ?_
            refine Sx.calm rfl rfl (Cm.move rfl) rfl ?_
            refine Sx.calm rfl rfl (Cm.move rfl) rfl ?_
            refine Sx.calm rfl rfl (Cm.move rfl) rfl ?_
            refine Sx.calm rfl rfl (Cm.move rfl) rfl ?_
            refine Sx.calm rfl rfl (Cm.sub64 rfl rfl (by omega)) rfl ?_
            refine Sx.calm rfl rfl (Cm.indexAddr1 sl37 rfl rfl (by rw [← hxl]; exact hz.1.vw.non) (by omega)) rfl ?_
            refine Sx.calm rfl rfl (Cm.load sca3 rfl (fun H (hH : Vw i64 H o c xs) => hH.gz 0 (md + m - 1 - q) (by omega) (by omega))) rfl ?_
            refine Sx.calm rfl rfl (Cm.move rfl) rfl ?_
            refine Sx.calm rfl rfl (Cm.move rfl) rfl ?_
            refine Sx.calm rfl rfl (Cm.indexAddr1 sl37 rfl rfl (by rw [← hxl]; exact hz.1.vw.non) (by omega)) rfl ?_
            refine Sx.calm rfl rfl (Cm.load sca3 rfl (fun H (hH : Vw i64 H o c xs) => hH.gz 0 q rfl (by omega))) rfl ?_
            refine Sx.eff rfl rfl (Sl.callC hC.fn rfl rfl (hC.call _ (xs.getD (md + m - 1 - q) 0) (xs.getD q 0) (hz.draws 1).2.2 (hVx _ (by omega)) (hVx q (by omega))) rfl ?_)
            intro v5 w5 hr5
            obtain ⟨rfl, hf5⟩ := hr5
            have hz5 : StI W0 o c n xs w5 := (hz.draws 1).grow hf5
            refine Sx.on (by exact hz5.1.vw) ?_
            refine Sx.fork rfl rfl (Cm.lss rfl rfl) rfl (fun h170 => ?_) (fun h170 => ?_)
            ·
              refine Sx.calm rfl rfl (Cm.not rfl) rfl ?_
              refine Sx.nil ?_
              refine At.weak [(0, _), (1, _), (2, _), (3, _), (4, _), (18, _), (19, _), (20, _), (21, _), (22, _), (23, _), (151, _), (171, _)] ⟨rfl, rfl, rfl, rfl, rfl, rfl, rfl, rfl, rfl, rfl, rfl, rfl, rfl, trivial⟩ ?_
              refine At.go ?_
              refine Sc.cond_f rfl ?_
              refine Sc.region ?_
              refine Sl.calm (Cm.move rfl) rfl ?_
              refine Sl.calm (Cm.assign rfl) rfl ?_
              refine Sl.nil ?_
              refine At.block_normal ?_
              first
                | exact At.again ⟨s, q⟩ ⟨rfl, rfl, rfl, rfl, rfl, rfl, rfl, rfl, rfl, rfl, trivial⟩ ⟨hs0, by omega, by omega, hz5, g1, fun _ => ltS_yes h170⟩ (by show q - s < r - s; omega)
                | exact At.again ⟨q + 1, r⟩ ⟨rfl, rfl, rfl, rfl, rfl, rfl, rfl, rfl, rfl, rfl, trivial⟩ ⟨by omega, by omega, hrR, hz5, fun _ => by rw [show md + m - (q + 1) = md + m - 1 - q by omega, Nat.add_sub_cancel]; exact ltS_no (h3 q (md + m - 1 - q) (by omega) (by omega) (by omega) (by omega)) h170, g2⟩ (by show r - (q + 1) < r - s; omega)
            ·
              refine Sx.calm rfl rfl (Cm.not rfl) rfl ?_
              refine Sx.nil ?_
              refine At.weak [(0, _), (1, _), (2, _), (3, _), (4, _), (18, _), (19, _), (20, _), (21, _), (22, _), (23, _), (151, _), (171, _)] ⟨rfl, rfl, rfl, rfl, rfl, rfl, rfl, rfl, rfl, rfl, rfl, rfl, rfl, trivial⟩ ?_
              refine At.go ?_
              refine Sc.cond_t rfl ?_
              refine Sc.region ?_
              refine Sl.calm (Cm.move rfl) rfl ?_
              refine Sl.calm (Cm.add64 rfl rfl (by omega)) rfl ?_
              refine Sl.calm (Cm.assign rfl) rfl ?_
              refine Sl.nil ?_
              refine At.block_normal ?_
              first
                | exact At.again ⟨s, q⟩ ⟨rfl, rfl, rfl, rfl, rfl, rfl, rfl, rfl, rfl, rfl, trivial⟩ ⟨hs0, by omega, by omega, hz5, g1, fun _ => ltS_yes h170⟩ (by show q - s < r - s; omega)
                | exact At.again ⟨q + 1, r⟩ ⟨rfl, rfl, rfl, rfl, rfl, rfl, rfl, rfl, rfl, rfl, trivial⟩ ⟨by omega, by omega, hrR, hz5, fun _ => by rw [show md + m - (q + 1) = md + m - 1 - q by omega, Nat.add_sub_cancel]; exact ltS_no (h3 q (md + m - 1 - q) (by omega) (by omega) (by omega) (by omega)) h170, g2⟩ (by show r - (q + 1) < r - s; omega)
          ·
            have hsre : s = r := by omega
            subst hsre
            have hcut := cut_of ham hmb hmd h1 h2 hSR hs0 hrR g1 g2
            obtain ⟨e, he⟩ : ∃ e : Nat, e = md + m - s := ⟨_, rfl⟩
            rw [← he] at hcut
            refine Sl.nil ?_
            refine At.weak [(0, _), (1, _), (2, _), (3, _), (4, _), (18, _), (19, _), (20, _), (21, _), (22, _), (151, _)] ⟨rfl, rfl, rfl, rfl, rfl, rfl, rfl, rfl, rfl, rfl, rfl, trivial⟩ ?_
            refine At.go ?_
            refine Sc.cond_f rfl ?_
            refine Sc.exit ?_
            refine At.then_exit ?_
            refine At.then_exit ?_
            refine At.block_hit ?_
            refine At.go ?_
            refine Sc.seq ?_
            obtain ⟨wz, hwz⟩ : ∃ wz, wz = w4 := ⟨_, rfl⟩
            rw [← hwz] at hz ⊢
            refine Sc.region ?_
            refine Sl.calm (Cm.move rfl) rfl ?_
            refine Sl.calm (Cm.move rfl) rfl ?_
            refine Sl.calm (Cm.ofEq (u := .int .i64 (e : Nat)) (Cm.sub64 rfl rfl (by omega)) (by congr 1; omega)) rfl ?_
            refine Sl.calm (Cm.assign rfl) rfl ?_
            refine Sl.nil ?_
            refine At.weak [(0, _), (1, _), (2, _), (3, _), (4, _), (18, _), (19, _), (20, _), (21, _), (22, _), (24, _), (151, _)] ⟨rfl, rfl, rfl, rfl, rfl, rfl, rfl, rfl, rfl, rfl, rfl, rfl, trivial⟩ ?_
            refine At.go ?_
            refine Sc.cut (β := List Int) (fun ys => [(0, .slice o n c), (1, .int .i64 a), (3, .int .i64 b), (4, .func (.func f) #[] cs.toArray), (18, .int .i64 md), (20, .int .i64 s), (24, .int .i64 e)]) (fun ys w => StI W0 o c n ys w ∧ ys.Perm xs ∧ ∀ k, ys.getD k 0 = xs.getD (rx s m e k) 0) ?_ ?_
            ·
              refine Sc.seq ?_
              refine Sc.region ?_
              refine Sl.calm (Cm.move rfl) rfl ?_
              refine Sl.calm (Cm.move rfl) rfl ?_
              refine Sl.fork (Cm.lss rfl rfl) rfl (fun h180 => ?_) (fun h180 => ?_)
              ·
                refine Sl.calm (Cm.move rfl) rfl ?_
                refine Sl.want rfl rfl (Cm.move rfl) rfl ?_
                refine Sl.want rfl rfl (Cm.move rfl) rfl ?_
                refine Sl.forkWant rfl rfl (Cm.lss rfl rfl) rfl (fun h184 => ?_) (fun h184 => ?_)
                ·
                  refine Sl.calm (Cm.pick_t rfl rfl) rfl ?_
                  refine Sl.nil ?_
                  refine At.weak [(0, _), (1, _), (2, _), (3, _), (4, _), (18, _), (19, _), (20, _), (21, _), (22, _), (24, _), (151, _), (185, _)] ⟨rfl, rfl, rfl, rfl, rfl, rfl, rfl, rfl, rfl, rfl, rfl, rfl, rfl, trivial⟩ ?_
                  refine At.go ?_
                  refine Sc.cond_t rfl ?_
                  refine Sc.region ?_
                  refine Sl.calm (Cm.move rfl) rfl ?_
                  refine Sl.calm (Cm.move rfl) rfl ?_
                  refine Sl.calm (Cm.move rfl) rfl ?_
                  refine Sl.calm (Cm.move rfl) rfl ?_
                  refine Sl.calm (Cm.move rfl) rfl ?_
                  refine Sl.call fn89 rfl (rotate_ok W0 o c n s m e _ xs wz hz (by omega) (by omega) (by omega) hn) rfl ?_
                  rintro _ w6 ⟨rfl, ys, hy, hyp, hyk⟩
                  refine Sl.nil ?_
                  first
                    | exact At.cut ys ⟨rfl, rfl, rfl, rfl, rfl, rfl, rfl, trivial⟩ ⟨hy, hyp, hyk⟩
                    | exact At.cut xs ⟨rfl, rfl, rfl, rfl, rfl, rfl, rfl, trivial⟩ ⟨hz, List.Perm.refl _, fun k => by rw [rx_id hcut.hsm hcut.hme (by omega)]⟩
                ·
                  refine Sl.calm (Cm.pick_t rfl rfl) rfl ?_
                  refine Sl.nil ?_
                  refine At.weak [(0, _), (1, _), (2, _), (3, _), (4, _), (18, _), (19, _), (20, _), (21, _), (22, _), (24, _), (151, _), (185, _)] ⟨rfl, rfl, rfl, rfl, rfl, rfl, rfl, rfl, rfl, rfl, rfl, rfl, rfl, trivial⟩ ?_
                  refine At.go ?_
                  refine Sc.cond_f rfl ?_
                  refine Sc.skip ?_
                  first
                    | exact At.cut ys ⟨rfl, rfl, rfl, rfl, rfl, rfl, rfl, trivial⟩ ⟨hy, hyp, hyk⟩
                    | exact At.cut xs ⟨rfl, rfl, rfl, rfl, rfl, rfl, rfl, trivial⟩ ⟨hz, List.Perm.refl _, fun k => by rw [rx_id hcut.hsm hcut.hme (by omega)]⟩
              ·
                refine Sl.calm (Cm.move rfl) rfl ?_
                refine Sl.skip rfl rfl rfl rfl ?_
                refine Sl.skip rfl rfl rfl rfl ?_
                refine Sl.skip rfl rfl rfl rfl ?_
                refine Sl.calm (Cm.pick_f rfl rfl) rfl ?_
                refine Sl.nil ?_
                refine At.weak [(0, _), (1, _), (2, _), (3, _), (4, _), (18, _), (19, _), (20, _), (21, _), (22, _), (24, _), (151, _), (185, _)] ⟨rfl, rfl, rfl, rfl, rfl, rfl, rfl, rfl, rfl, rfl, rfl, rfl, rfl, trivial⟩ ?_
                refine At.go ?_
                refine Sc.cond_f rfl ?_
                refine Sc.skip ?_
                first
                  | exact At.cut ys ⟨rfl, rfl, rfl, rfl, rfl, rfl, rfl, trivial⟩ ⟨hy, hyp, hyk⟩
                  | exact At.cut xs ⟨rfl, rfl, rfl, rfl, rfl, rfl, rfl, trivial⟩ ⟨hz, List.Perm.refl _, fun k => by rw [rx_id hcut.hsm hcut.hme (by omega)]⟩
            ·
              rintro ys w7 ⟨hy, hyp, hyk⟩
              obtain ⟨q1, q2, q3, q4, q5, q6, q7⟩ := hcut.halves h1 h2 h3 hyk
              have c1 := hcut.has
              have c2 := hcut.hsm
              have c3 := hcut.hme
              have c4 := hcut.heb
              have c5 := hcut.hmd
              refine Sc.cut (β := List Int) (fun zs => [(0, .slice o n c), (3, .int .i64 b), (4, .func (.func f) #[] cs.toArray), (18, .int .i64 md), (24, .int .i64 e)]) (fun zs w => StI W0 o c n zs w ∧ Seg ys zs a md ∧ Srt K zs a md) ?_ ?_
              ·
                refine Sc.seq ?_
                refine Sc.region ?_
                refine Sl.calm (Cm.move rfl) rfl ?_
                refine Sl.calm (Cm.move rfl) rfl ?_
                refine Sl.fork (Cm.lss rfl rfl) rfl (fun h194 => ?_) (fun h194 => ?_)
                ·
                  refine Sl.calm (Cm.move rfl) rfl ?_
                  refine Sl.want rfl rfl (Cm.move rfl) rfl ?_
                  refine Sl.want rfl rfl (Cm.move rfl) rfl ?_
                  refine Sl.forkWant rfl rfl (Cm.lss rfl rfl) rfl (fun h198 => ?_) (fun h198 => ?_)
                  ·
                    refine Sl.calm (Cm.pick_t rfl rfl) rfl ?_
                    refine Sl.nil ?_
                    refine At.weak [(0, _), (1, _), (3, _), (4, _), (18, _), (20, _), (24, _), (199, _)] ⟨rfl, rfl, rfl, rfl, rfl, rfl, rfl, rfl, trivial⟩ ?_
                    refine At.go ?_
                    refine Sc.cond_t rfl ?_
                    refine Sc.region ?_
                    refine Sl.calm (Cm.move rfl) rfl ?_
                    refine Sl.calm (Cm.move rfl) rfl ?_
                    refine Sl.calm (Cm.move rfl) rfl ?_
                    refine Sl.calm (Cm.move rfl) rfl ?_
                    refine Sl.calm (Cm.move rfl) rfl ?_
                    refine Sl.call fn74 rfl (ih a s md ys w7 (by omega) hy (fun z hz => hV z (hyp.mem_iff.1 hz)) (by omega) (by omega) (by omega) q1 q2 q3) rfl ?_
                    rintro _ w8 ⟨rfl, zs, hz, hzg, hzs⟩
                    refine Sl.nil ?_
                    first
                      | exact At.cut zs ⟨rfl, rfl, rfl, rfl, rfl, trivial⟩ ⟨hz, hzg, hzs⟩
                      | exact At.cut ys ⟨rfl, rfl, rfl, rfl, rfl, trivial⟩ ⟨hy, Seg.refl _ _ _, by rw [show s = a by omega] at q2; exact q2⟩
                      | exact At.cut ys ⟨rfl, rfl, rfl, rfl, rfl, trivial⟩ ⟨hy, Seg.refl _ _ _, by rw [show s = md by omega] at q1; exact q1⟩
                  ·
                    refine Sl.calm (Cm.pick_t rfl rfl) rfl ?_
                    refine Sl.nil ?_
                    refine At.weak [(0, _), (1, _), (3, _), (4, _), (18, _), (20, _), (24, _), (199, _)] ⟨rfl, rfl, rfl, rfl, rfl, rfl, rfl, rfl, trivial⟩ ?_
                    refine At.go ?_
                    refine Sc.cond_f rfl ?_
                    refine Sc.skip ?_
                    first
                      | exact At.cut zs ⟨rfl, rfl, rfl, rfl, rfl, trivial⟩ ⟨hz, hzg, hzs⟩
                      | exact At.cut ys ⟨rfl, rfl, rfl, rfl, rfl, trivial⟩ ⟨hy, Seg.refl _ _ _, by rw [show s = a by omega] at q2; exact q2⟩
                      | exact At.cut ys ⟨rfl, rfl, rfl, rfl, rfl, trivial⟩ ⟨hy, Seg.refl _ _ _, by rw [show s = md by omega] at q1; exact q1⟩
                ·
                  refine Sl.calm (Cm.move rfl) rfl ?_
                  refine Sl.skip rfl rfl rfl rfl ?_
                  refine Sl.skip rfl rfl rfl rfl ?_
                  refine Sl.skip rfl rfl rfl rfl ?_
                  refine Sl.calm (Cm.pick_f rfl rfl) rfl ?_
                  refine Sl.nil ?_
                  refine At.weak [(0, _), (1, _), (3, _), (4, _), (18, _), (20, _), (24, _), (199, _)] ⟨rfl, rfl, rfl, rfl, rfl, rfl, rfl, rfl, trivial⟩ ?_
                  refine At.go ?_
                  refine Sc.cond_f rfl ?_
                  refine Sc.skip ?_
                  first
                    | exact At.cut zs ⟨rfl, rfl, rfl, rfl, rfl, trivial⟩ ⟨hz, hzg, hzs⟩
                    | exact At.cut ys ⟨rfl, rfl, rfl, rfl, rfl, trivial⟩ ⟨hy, Seg.refl _ _ _, by rw [show s = a by omega] at q2; exact q2⟩
                    | exact At.cut ys ⟨rfl, rfl, rfl, rfl, rfl, trivial⟩ ⟨hy, Seg.refl _ _ _, by rw [show s = md by omega] at q1; exact q1⟩
              ·
                rintro zs w9 ⟨hz, hzg, hzs⟩
                refine Sc.seq ?_
                refine Sc.region ?_
                refine Sl.calm (Cm.move rfl) rfl ?_
                refine Sl.calm (Cm.move rfl) rfl ?_
                refine Sl.fork (Cm.lss rfl rfl) rfl (fun h208 => ?_) (fun h208 => ?_)
                ·
                  refine Sl.calm (Cm.move rfl) rfl ?_
                  refine Sl.want rfl rfl (Cm.move rfl) rfl ?_
                  refine Sl.want rfl rfl (Cm.move rfl) rfl ?_
                  refine Sl.forkWant rfl rfl (Cm.lss rfl rfl) rfl (fun h212 => ?_) (fun h212 => ?_)
                  ·
                    refine Sl.calm (Cm.pick_t rfl rfl) rfl ?_
                    refine Sl.nil ?_
                    refine At.weak [(0, _), (3, _), (4, _), (18, _), (24, _), (213, _)] ⟨rfl, rfl, rfl, rfl, rfl, rfl, trivial⟩ ?_
                    refine At.go ?_
                    refine Sc.cond_t rfl ?_
                    refine Sc.region ?_
                    refine Sl.calm (Cm.move rfl) rfl ?_
                    refine Sl.calm (Cm.move rfl) rfl ?_
                    refine Sl.calm (Cm.move rfl) rfl ?_
                    refine Sl.calm (Cm.move rfl) rfl ?_
                    refine Sl.calm (Cm.move rfl) rfl ?_
                    refine Sl.call fn74 rfl (ih md e b zs w9 (by omega) hz (fun z hz => hV z (hyp.mem_iff.1 (hzg.2.1.mem_iff.1 hz))) (by omega) (by omega) (by omega) (srt_same q4 (fun k k1 k2 => hzg.2.2.1 k (.inr (by omega)))) (srt_same q5 (fun k k1 k2 => hzg.2.2.1 k (.inr (by omega)))) (stb_same q6 (by omega) (fun k k1 k2 => hzg.2.2.1 k (.inr (by omega))))) rfl ?_
                    rintro _ w10 ⟨rfl, us, hu, hug, hus⟩
                    refine Sl.nil ?_
                    refine At.end0 rfl ?_
                    have hmdb : a ≤ md ∧ md ≤ b := by omega
                    have hsy : Seg xs ys a b := seg_of hyp hyk (fun p hp => by have := rx_spec s m e p; omega) (fun p p1 p2 => by have := rx_spec s m e p; omega)
                    first
                      | exact ⟨_, rfl, rfl, us, hu, (hsy.trans (hzg.wide (Nat.le_refl _) hmdb.2)).trans (hug.wide hmdb.1 (Nat.le_refl _)), join_srt hmdb.1 hmdb.2 hzg hug hzs hus q7⟩
                      | exact ⟨_, rfl, rfl, zs, hz, hsy.trans (hzg.wide (Nat.le_refl _) hmdb.2), join_srt hmdb.1 hmdb.2 hzg (Seg.refl _ _ _) hzs (srt_same (ys := ys) (by first | (rw [show e = md by omega] at q5; exact q5) | (rw [show e = b by omega] at q4; exact q4)) (fun k k1 k2 => hzg.2.2.1 k (.inr k1))) q7⟩
                  ·
                    refine Sl.calm (Cm.pick_t rfl rfl) rfl ?_
                    refine Sl.nil ?_
                    refine At.weak [(0, _), (3, _), (4, _), (18, _), (24, _), (213, _)] ⟨rfl, rfl, rfl, rfl, rfl, rfl, trivial⟩ ?_
                    refine At.go ?_
                    refine Sc.cond_f rfl ?_
                    refine Sc.skip ?_
                    refine At.end0 rfl ?_
                    have hmdb : a ≤ md ∧ md ≤ b := by omega
                    have hsy : Seg xs ys a b := seg_of hyp hyk (fun p hp => by have := rx_spec s m e p; omega) (fun p p1 p2 => by have := rx_spec s m e p; omega)
                    first
                      | exact ⟨_, rfl, rfl, us, hu, (hsy.trans (hzg.wide (Nat.le_refl _) hmdb.2)).trans (hug.wide hmdb.1 (Nat.le_refl _)), join_srt hmdb.1 hmdb.2 hzg hug hzs hus q7⟩
                      | exact ⟨_, rfl, rfl, zs, hz, hsy.trans (hzg.wide (Nat.le_refl _) hmdb.2), join_srt hmdb.1 hmdb.2 hzg (Seg.refl _ _ _) hzs (srt_same (ys := ys) (by first | (rw [show e = md by omega] at q5; exact q5) | (rw [show e = b by omega] at q4; exact q4)) (fun k k1 k2 => hzg.2.2.1 k (.inr k1))) q7⟩
                ·
                  refine Sl.calm (Cm.move rfl) rfl ?_
                  refine Sl.skip rfl rfl rfl rfl ?_
                  refine Sl.skip rfl rfl rfl rfl ?_
                  refine Sl.skip rfl rfl rfl rfl ?_
                  refine Sl.calm (Cm.pick_f rfl rfl) rfl ?_
                  refine Sl.nil ?_
                  refine At.weak [(0, _), (3, _), (4, _), (18, _), (24, _), (213, _)] ⟨rfl, rfl, rfl, rfl, rfl, rfl, trivial⟩ ?_
                  refine At.go ?_
                  refine Sc.cond_f rfl ?_
                  refine Sc.skip ?_
                  refine At.end0 rfl ?_
                  have hmdb : a ≤ md ∧ md ≤ b := by omega
                  have hsy : Seg xs ys a b := seg_of hyp hyk (fun p hp => by have := rx_spec s m e p; omega) (fun p p1 p2 => by have := rx_spec s m e p; omega)
                  first
                    | exact ⟨_, rfl, rfl, us, hu, (hsy.trans (hzg.wide (Nat.le_refl _) hmdb.2)).trans (hug.wide hmdb.1 (Nat.le_refl _)), join_srt hmdb.1 hmdb.2 hzg hug hzs hus q7⟩
                    | exact ⟨_, rfl, rfl, zs, hz, hsy.trans (hzg.wide (Nat.le_refl _) hmdb.2), join_srt hmdb.1 hmdb.2 hzg (Seg.refl _ _ _) hzs (srt_same (ys := ys) (by first | (rw [show e = md by omega] at q5; exact q5) | (rw [show e = b by omega] at q4; exact q4)) (fun k k1 k2 => hzg.2.2.1 k (.inr k1))) q7⟩
end Go.Proofs.Ytpnfjfbfgaiolaa
