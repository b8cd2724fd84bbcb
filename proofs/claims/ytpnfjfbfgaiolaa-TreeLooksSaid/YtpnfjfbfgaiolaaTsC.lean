/- slices.SortStableFunc over numbers: what is in order; the insertion sort. No condition beyond the bounds that each states. -/
import Derived.Test.YtpnfjfbfgaiolaaTsB
namespace Go.Proofs.Ytpnfjfbfgaiolaa
open Go Go.RowKit
set_option linter.unusedVariables false

section
variable {K : Int → List (List UInt8)}
/-- ahead of, by names, and by the number where names are the same -/
def ltS (K : Int → List (List UInt8)) (x y : Int) : Prop := cmpL (K x) (K y) < 0 ∨ (cmpL (K x) (K y) = 0 ∧ x < y)
theorem ltS_trans {x y z : Int} (h1 : ltS K x y) (h2 : ltS K y z) : ltS K x z := by
  rcases h1 with h1 | ⟨h1, g1⟩
  · rcases h2 with h2 | ⟨h2, g2⟩
    · exact .inl (cmpL_trans h1 h2)
    · rw [cmpL_zero h2] at h1; exact .inl h1
  · rcases h2 with h2 | ⟨h2, g2⟩
    · rw [← cmpL_zero h1] at h2; exact .inl h2
    · exact .inr ⟨by rw [cmpL_zero h1, h2], by omega⟩
theorem ltS_yes {x y : Int} (h : cmpL (K y) (K x) < 0) : ltS K y x := .inl h
theorem ltS_no {x y : Int} (hxy : x < y) (h : ¬ cmpL (K y) (K x) < 0) : ltS K x y := by
  have := cmpL_neg (K y) (K x)
  by_cases e : cmpL (K x) (K y) = 0
  · exact .inr ⟨e, hxy⟩
  · exact .inl (by omega)
end
def Srt (K : Int → List (List UInt8)) (xs : List Int) (a b : Nat) : Prop := ∀ i j : Nat, a ≤ i → i < j → j < b → ltS K (xs.getD i 0) (xs.getD j 0)
def Inc (xs : List Int) (a b : Nat) : Prop := ∀ i j : Nat, a ≤ i → i < j → j < b → xs.getD i 0 < xs.getD j 0
def StB (xs : List Int) (a m b : Nat) : Prop := ∀ i j : Nat, a ≤ i → i < m → m ≤ j → j < b → xs.getD i 0 < xs.getD j 0
def Seg (xs ys : List Int) (a b : Nat) : Prop := ys.length = xs.length ∧ ys.Perm xs ∧ (∀ k : Nat, (k < a ∨ b ≤ k) → ys.getD k 0 = xs.getD k 0) ∧ ∀ k : Nat, a ≤ k → k < b → ∃ k' : Nat, a ≤ k' ∧ k' < b ∧ ys.getD k 0 = xs.getD k' 0
theorem Seg.refl (xs : List Int) (a b : Nat) : Seg xs xs a b := ⟨rfl, List.Perm.refl _, fun _ _ => rfl, fun k h1 h2 => ⟨k, h1, h2, rfl⟩⟩
theorem Seg.trans {xs ys zs : List Int} {a b : Nat} (h : Seg xs ys a b) (g : Seg ys zs a b) : Seg xs zs a b :=
  ⟨g.1.trans h.1, g.2.1.trans h.2.1, fun k hk => (g.2.2.1 k hk).trans (h.2.2.1 k hk), fun k h1 h2 => by
    obtain ⟨k', a1, a2, a3⟩ := g.2.2.2 k h1 h2
    obtain ⟨k'', b1, b2, b3⟩ := h.2.2.2 k' a1 a2
    exact ⟨k'', b1, b2, a3.trans b3⟩⟩
theorem Seg.wide {xs ys : List Int} {a b a' b' : Nat} (h : Seg xs ys a b) (ha : a' ≤ a) (hb : b ≤ b') : Seg xs ys a' b' :=
  ⟨h.1, h.2.1, fun k hk => h.2.2.1 k (by omega), fun k h1 h2 => by
    by_cases hk : a ≤ k ∧ k < b
    · obtain ⟨k', a1, a2, a3⟩ := h.2.2.2 k hk.1 hk.2
      exact ⟨k', by omega, by omega, a3⟩
    · exact ⟨k, h1, h2, h.2.2.1 k (by omega)⟩⟩
theorem Seg.swap {xs ys : List Int} {a b i j : Nat} (h : Seg xs ys a b) (hi : a ≤ i ∧ i < b) (hj : a ≤ j ∧ j < b) (hb : b ≤ ys.length) : Seg xs (swapL ys i j) a b := by
  refine h.trans ⟨swap_len _ _ _, swap_perm (by omega) (by omega), fun k hk => ?_, fun k h1 h2 => ⟨wx i j k, ?_, ?_, gd_swap (by omega) (by omega)⟩⟩
  · rw [gd_swap (by omega) (by omega)]
    have := wx_spec i j k
    rw [show wx i j k = k by omega]
  · have := wx_spec i j k; omega
  · have := wx_spec i j k; omega
theorem gd_mem {xs : List Int} {k : Nat} (h : k < xs.length) : xs.getD k 0 ∈ xs := by
  have : xs.getD k 0 = xs[k] := by simp [List.getD, h]
  rw [this]; exact List.getElem_mem h

/-- the comparison -/
structure CmpS (W0 : World) (o : Option Addr) (f : FuncId) (cs : List Value) (V : Int → Prop) (K : Int → List (List UInt8)) : Prop where
  fn : fnB Try.prog f = true
  call : ∀ (w : World) (x y : Int), Foot (blk o) W0 w → V x → V y → Calls Try.prog f ([Value.int .i64 x, Value.int .i64 y] ++ cs).toArray w (Ret fun v w' => v = .int .i64 (cmpL (K x) (K y)) ∧ Foot nob w w')
/-- what holds while one is on its way -/
def InsI (K : Int → List (List UInt8)) (ys : List Int) (a i j : Nat) : Prop := (∀ p q : Nat, a ≤ p → p < q → q ≤ i → p ≠ j → q ≠ j → ltS K (ys.getD p 0) (ys.getD q 0)) ∧ (∀ q : Nat, j < q → q ≤ i → ltS K (ys.getD j 0) (ys.getD q 0)) ∧ ∀ p : Nat, a ≤ p → p ≤ i → p ≠ j → ys.getD p 0 < ys.getD j 0
theorem InsI.step {K : Int → List (List UInt8)} {ys : List Int} {a i j : Nat} (h : InsI K ys a i j) (haj : a < j) (hji : j ≤ i) (hi : i < ys.length) (hl : cmpL (K (ys.getD j 0)) (K (ys.getD (j - 1) 0)) < 0) : InsI K (swapL ys j (j - 1)) a i (j - 1) := by
  obtain ⟨h1, h2, h3⟩ := h
  have g : ∀ k, (swapL ys j (j - 1)).getD k 0 = ys.getD (wx j (j - 1) k) 0 := fun k => gd_swap (by omega) (by omega)
  have gj : (swapL ys j (j - 1)).getD (j - 1) 0 = ys.getD j 0 := by rw [g]; have := wx_spec j (j - 1) (j - 1); rw [show wx j (j - 1) (j - 1) = j by omega]
  refine ⟨fun p q hp hpq hq n1 n2 => ?_, fun q hq hqi => ?_, fun p hp hpi hne => ?_⟩
  · rw [g, g]
    have s1 := wx_spec j (j - 1) p
    have s2 := wx_spec j (j - 1) q
    exact h1 _ _ (by omega) (by omega) (by omega) (by omega) (by omega)
  · rw [gj, g]
    have s2 := wx_spec j (j - 1) q
    by_cases e : q = j
    · rw [show wx j (j - 1) q = j - 1 by omega]; exact .inl hl
    · rw [show wx j (j - 1) q = q by omega]; exact h2 q (by omega) hqi
  · rw [gj, g]
    have s2 := wx_spec j (j - 1) p
    exact h3 _ (by omega) (by omega) (by omega)
theorem InsI.done {K : Int → List (List UInt8)} {ys : List Int} {a i j : Nat} (h : InsI K ys a i j) (haj : a ≤ j) (hji : j ≤ i) (hs : a < j → ¬ cmpL (K (ys.getD j 0)) (K (ys.getD (j - 1) 0)) < 0) : Srt K ys a (i + 1) := by
  obtain ⟨h1, h2, h3⟩ := h
  have hl : ∀ p, a ≤ p → p < j → ltS K (ys.getD p 0) (ys.getD j 0) := fun p hp hpj => by
    have h4 := ltS_no (h3 (j - 1) (by omega) (by omega) (by omega)) (hs (by omega))
    by_cases e : p = j - 1
    · rw [e]; exact h4
    · exact ltS_trans (h1 p (j - 1) hp (by omega) (by omega) (by omega) (by omega)) h4
  intro p q hp hpq hq
  by_cases e1 : p = j
  · subst e1; exact h2 q hpq (by omega)
  · by_cases e2 : q = j
    · subst e2; exact hl p hp hpq
    · exact h1 p q hp hpq (by omega) e1 e2
set_option maxHeartbeats 2000000 in
theorem insertS_ok {K : Int → List (List UInt8)} {V : Int → Prop} {f : FuncId} {cs : List Value} (W0 : World) (o : Option Addr) (hC : CmpS W0 o f cs V K) (c n a b : Nat) (xs : List Int) (W : World) (h : StI W0 o c n xs W) (hV : ∀ z ∈ xs, V z) (hab : a ≤ b) (hbn : b ≤ n) (hn : n ≤ 1000000) (hinc : Inc xs a b) :
    Calls Try.prog 73 [.slice o n c, .int .i64 a, .int .i64 b, .func (.func f) #[] cs.toArray].toArray W (Ret fun v w' => v = .tuple #[] ∧ ∃ ys, StI W0 o c n ys w' ∧ Seg xs ys a b ∧ Srt K ys a b) := by
  refine calls_of_sc 53 [(0, _), (1, _), (2, _), (3, _)] Try.func73 rfl rfl rfl (enter_slots ⟨rfl, rfl, rfl, rfl, trivial⟩) ?_
  refine Sc.seq ?_
  refine Sc.region ?_
  refine Sl.calm (Cm.move rfl) rfl ?_
  refine Sl.calm (Cm.add64 rfl rfl (by omega)) rfl ?_
  refine Sl.calm (Cm.assign rfl) rfl ?_
  refine Sl.nil ?_
  refine At.weak [(0, _), (1, _), (2, _), (3, _), (8, _)] ⟨rfl, rfl, rfl, rfl, rfl, trivial⟩ ?_
  refine At.go ?_
  refine Sc.block ?_
  refine Sc.loop (β := Nat × List Int) (fun ⟨i, ys⟩ => [(0, .slice o n c), (1, .int .i64 a), (2, .int .i64 b), (3, .func (.func f) #[] cs.toArray), (8, .int .i64 i)]) (fun ⟨i, ys⟩ w => (a < i ∧ (i ≤ b ∨ i = a + 1)) ∧ StI W0 o c n ys w ∧ Seg xs ys a (min i b) ∧ Srt K ys a i) (fun ⟨i, ys⟩ => b - i) ⟨a + 1, xs⟩ ⟨rfl, rfl, rfl, rfl, rfl, trivial⟩ ⟨⟨by omega, .inr rfl⟩, h, Seg.refl _ _ _, fun p q h1 h2 h3 => by omega⟩ ?_
  rintro ⟨i, ys⟩ w2 ⟨⟨hai, hib0⟩, hy, hs1, ht1⟩
  refine Sc.seq ?_
  refine Sc.seq ?_
  refine Sc.region ?_
  refine Sl.calm (Cm.move rfl) rfl ?_
  refine Sl.calm (Cm.move rfl) rfl ?_
  refine Sl.fork (Cm.lss rfl rfl) rfl (fun h14 => ?_) (fun h14 => ?_)
  ·
    have hib : i < b := by omega
    have hyl := hy.2.1
    refine Sl.nil ?_
    refine At.weak [(0, _), (1, _), (2, _), (3, _), (8, _), (14, _)] ⟨rfl, rfl, rfl, rfl, rfl, rfl, trivial⟩ ?_
    refine At.go ?_
    refine Sc.cond_t rfl ?_
    refine Sc.skip ?_
    refine At.go ?_
    refine Sc.cut (β := List Int) (fun vs => [(0, .slice o n c), (1, .int .i64 a), (2, .int .i64 b), (3, .func (.func f) #[] cs.toArray), (8, .int .i64 i)]) (fun vs w => StI W0 o c n vs w ∧ Seg xs vs a (i + 1) ∧ Srt K vs a (i + 1)) ?_ ?_
    ·
      refine Sc.block ?_
      refine Sc.seq ?_
      refine Sc.region ?_
      refine Sl.calm (Cm.move rfl) rfl ?_
      refine Sl.calm (Cm.assign rfl) rfl ?_
      refine Sl.nil ?_
      refine At.weak [(0, _), (1, _), (2, _), (3, _), (8, _), (9, _), (14, _)] ⟨rfl, rfl, rfl, rfl, rfl, rfl, rfl, trivial⟩ ?_
      refine At.go ?_
      refine Sc.block ?_
      refine Sc.loop (β := Nat × List Int) (fun ⟨j, zs⟩ => [(0, .slice o n c), (1, .int .i64 a), (2, .int .i64 b), (3, .func (.func f) #[] cs.toArray), (8, .int .i64 i), (9, .int .i64 j)]) (fun ⟨j, zs⟩ w => a ≤ j ∧ j ≤ i ∧ StI W0 o c n zs w ∧ Seg xs zs a (i + 1) ∧ InsI K zs a i j) (fun ⟨j, zs⟩ => j) ⟨i, ys⟩ ⟨rfl, rfl, rfl, rfl, rfl, rfl, trivial⟩ ⟨by omega, Nat.le_refl _, hy, by rw [Nat.min_eq_left (by omega)] at hs1; exact hs1.wide (Nat.le_refl _) (by omega), ⟨fun p q h1 h2 h3 h4 h5 => ht1 p q h1 h2 (by omega), fun q h1 h2 => by omega, fun p h1 h2 h3 => by rw [Nat.min_eq_left (by omega)] at hs1; obtain ⟨k, k1, k2, k3⟩ := hs1.2.2.2 p h1 (by omega); rw [k3, hs1.2.2.1 i (.inr (Nat.le_refl _))]; exact hinc k i k1 k2 hib⟩⟩ ?_
      rintro ⟨j, zs⟩ w4 ⟨haj, hji, hz, hs2, hI⟩
      refine Sc.seq ?_
      refine Sc.seq ?_
      refine Sc.draw 17 (fun H => Vw i64 H o c zs) [14] [0, 1, 2, 3, 4, 5, 6, 7, 8, 9, 10, 11, 12, 13, 14, 15, 16] mixed (by kernel_rfl) (hz.1.vw) ?_
      refine Sx.calm rfl rfl (Cm.move rfl) rfl ?_
      refine Sx.calm rfl rfl (Cm.move rfl) rfl ?_
      refine Sx.fork rfl rfl (Cm.gtr rfl rfl) rfl (fun h20 => ?_) (fun h20 => ?_)
      ·
        have hzl := hz.2.1
        have hVz : ∀ k : Nat, k < n → V (zs.getD k 0) := fun k hk => hV _ (hs2.2.1.mem_iff.1 (gd_mem (by omega)))
        refine Sx.calm rfl rfl (Cm.move rfl) rfl ?_
        refine Sx.want rfl rfl rfl rfl (Cm.move rfl) rfl ?_
        refine Sx.want rfl rfl rfl rfl (Cm.move rfl) rfl ?_
        refine Sx.want rfl rfl rfl rfl (Cm.move rfl) rfl ?_
        refine Sx.want rfl rfl rfl rfl (Cm.indexAddr1 sl37 rfl rfl (by rw [← hz.2.1]; exact hz.1.vw.non) (by omega)) rfl ?_
        refine Sx.want rfl rfl rfl rfl (Cm.load sca3 rfl (fun H (hH : Vw i64 H o c zs) => hH.gz 0 j rfl (by omega))) rfl ?_
        refine Sx.want rfl rfl rfl rfl (Cm.move rfl) rfl ?_
        refine Sx.want rfl rfl rfl rfl (Cm.move rfl) rfl ?_
        refine Sx.want rfl rfl rfl rfl (Cm.sub64 rfl rfl (by omega)) rfl ?_
        refine Sx.want rfl rfl rfl rfl (Cm.indexAddr1 sl37 rfl rfl (by rw [← hz.2.1]; exact hz.1.vw.non) (by omega)) rfl ?_
        refine Sx.want rfl rfl rfl rfl (Cm.load sca3 rfl (fun H (hH : Vw i64 H o c zs) => hH.gz 0 (j - 1) (by omega) (by omega))) rfl ?_
        refine Sx.eff rfl rfl (Sl.wanted rfl rfl <| Sl.callC hC.fn rfl rfl (hC.call _ (zs.getD j 0) (zs.getD (j - 1) 0) (hz.draws 1).2.2 (hVz j (by omega)) (hVz (j - 1) (by omega))) rfl ?_)
        intro v5 w5 hr5
        obtain ⟨rfl, hf5⟩ := hr5
        have hz5 : StI W0 o c n zs w5 := (hz.draws 1).grow hf5
        refine Sx.on (by exact hz5.1.vw) ?_
        refine Sx.forkWant rfl rfl rfl rfl (Cm.lss rfl rfl) rfl (fun h33 => ?_) (fun h33 => ?_)
        ·
          refine Sx.calm rfl rfl (Cm.pick_t rfl rfl) rfl ?_
          refine Sx.nil ?_
          refine At.weak [(0, _), (1, _), (2, _), (3, _), (8, _), (9, _), (34, _)] ⟨rfl, rfl, rfl, rfl, rfl, rfl, rfl, trivial⟩ ?_
          refine At.go ?_
          refine Sc.cond_t rfl ?_
          refine Sc.skip ?_
          refine At.go ?_
          refine Sc.seq ?_
          refine Sc.block ?_
          refine Sc.drawZ 15 [9, 13] (fun H => Vw i64 H o c zs) [15, 17] [0, 1, 2, 3, 4, 5, 6, 7, 8, 9, 10, 11, 12, 13, 14] (.alt 15 [16] (.alt 17 [] .fin .stop) .stop) mixed (by kernel_rfl) (hz5.1.vw) ?_
          refine Sz.calm rfl rfl (Cm.move rfl) rfl ?_
          refine Sz.calm rfl rfl (Cm.move rfl) rfl ?_
          refine Sz.calm rfl rfl (Cm.move rfl) rfl ?_
          refine Sz.calm rfl rfl (Cm.move rfl) rfl ?_
          refine Sz.calm rfl rfl (Cm.sub64 rfl rfl (by omega)) rfl ?_
          refine Sz.calm rfl rfl (Cm.move rfl) rfl ?_
          refine Sz.calm rfl rfl (Cm.move rfl) rfl ?_
          refine Sz.calm rfl rfl (Cm.sub64 rfl rfl (by omega)) rfl ?_
          refine Sz.calm rfl rfl (Cm.indexAddr1 sl37 rfl rfl (by rw [← hz.2.1]; exact hz.1.vw.non) (by omega)) rfl ?_
          refine Sz.calm rfl rfl (Cm.load sca3 rfl (fun H (hH : Vw i64 H o c zs) => hH.gz 0 (j - 1) (by omega) (by omega))) rfl ?_
          refine Sz.calm rfl rfl (Cm.move rfl) rfl ?_
          refine Sz.calm rfl rfl (Cm.move rfl) rfl ?_
          refine Sz.calm rfl rfl (Cm.indexAddr1 sl37 rfl rfl (by rw [← hz.2.1]; exact hz.1.vw.non) (by omega)) rfl ?_
          refine Sz.calm rfl rfl (Cm.load sca3 rfl (fun H (hH : Vw i64 H o c zs) => hH.gz 0 j rfl (by omega))) rfl ?_
          refine Sz.calm rfl rfl (Cm.indexAddr1 sl37 rfl rfl (by rw [← hz.2.1]; exact hz.1.vw.non) (by omega)) rfl ?_
          refine Sz.alt ?_ ?_
          ·
            refine Sz.eff rfl rfl (Sl.storeRow i64_oneS sca3 (z := (j : Int)) (u := zs.getD (j - 1) 0) rfl rfl (hz5.draws 1).1 (by omega) ?_)
            intro w6 ho6 hs6 hf6
            refine Sz.off rfl ?_
            refine Sz.calm rfl rfl (Cm.indexAddr1 sl37 rfl rfl (by rw [← hz.2.1]; exact hz.1.vw.non) (by omega)) rfl ?_
            refine Sz.alt ?_ ?_
            ·
              refine Sz.eff rfl rfl (Sl.storeRow i64_oneS sca3 (z := (j : Int) - 1) (u := zs.getD j 0) rfl rfl ho6 (by rw [List.length_set]; omega) ?_)
              intro w7 ho7 hs7 hf7
              have e2 : ((j : Int) - 1).toNat = j - 1 := by omega
              rw [e2] at ho7
              refine Sz.off rfl ?_
              refine Sz.nil ?_
              refine At.block_normal ?_
              refine At.weak [(0, _), (1, _), (2, _), (3, _), (8, _), (9, _), (34, _)] ⟨rfl, rfl, rfl, rfl, rfl, rfl, rfl, trivial⟩ ?_
              refine At.go ?_
              refine Sc.region ?_
              refine Sl.calm (Cm.move rfl) rfl ?_
              refine Sl.calm (Cm.sub64 rfl rfl (by omega)) rfl ?_
              refine Sl.calm (Cm.assign rfl) rfl ?_
              refine Sl.nil ?_
              exact At.again ⟨j - 1, swapL zs j (j - 1)⟩ ⟨rfl, rfl, rfl, rfl, rfl, congrArg (fun z : Int => some (Value.int .i64 z)) (by omega), trivial⟩ ⟨by omega, by omega, ⟨ho7, by rw [swap_len]; exact hzl, ((hz5.2.2.draws 1).trans hf6).trans hf7⟩, hs2.swap ⟨by omega, by omega⟩ ⟨by omega, by omega⟩ (by omega), hI.step (by omega) hji (by omega) h33⟩ (by show j - 1 < j; omega)
            exact Sz.stop
          exact Sz.stop
        ·
          have hstop : a < j → ¬ cmpL (K (zs.getD j 0)) (K (zs.getD (j - 1) 0)) < 0 := fun _ => h33
          refine Sx.calm rfl rfl (Cm.pick_t rfl rfl) rfl ?_
          refine Sx.nil ?_
          refine At.weak [(0, _), (1, _), (2, _), (3, _), (8, _), (9, _), (34, _)] ⟨rfl, rfl, rfl, rfl, rfl, rfl, rfl, trivial⟩ ?_
          refine At.go ?_
          refine Sc.cond_f rfl ?_
          refine Sc.exit ?_
          refine At.then_exit ?_
          refine At.then_exit ?_
          refine At.block_hit ?_
          refine At.block_normal ?_
          first
            | exact At.cut zs ⟨rfl, rfl, rfl, rfl, rfl, trivial⟩ ⟨hz5, hs2, hI.done haj hji hstop⟩
            | exact At.cut zs ⟨rfl, rfl, rfl, rfl, rfl, trivial⟩ ⟨hz.draws 1, hs2, hI.done haj hji hstop⟩
      ·
        have hstop : a < j → ¬ cmpL (K (zs.getD j 0)) (K (zs.getD (j - 1) 0)) < 0 := fun h => by omega
        refine Sx.calm rfl rfl (Cm.move rfl) rfl ?_
        refine Sx.skip rfl rfl rfl rfl rfl rfl ?_
        refine Sx.skip rfl rfl rfl rfl rfl rfl ?_
        refine Sx.skip rfl rfl rfl rfl rfl rfl ?_
        refine Sx.skip rfl rfl rfl rfl rfl rfl ?_
        refine Sx.skip rfl rfl rfl rfl rfl rfl ?_
        refine Sx.skip rfl rfl rfl rfl rfl rfl ?_
        refine Sx.skip rfl rfl rfl rfl rfl rfl ?_
        refine Sx.skip rfl rfl rfl rfl rfl rfl ?_
        refine Sx.skip rfl rfl rfl rfl rfl rfl ?_
        refine Sx.skip rfl rfl rfl rfl rfl rfl ?_
        refine Sx.eff rfl rfl (Sl.skip rfl rfl rfl rfl ?_)
        refine Sx.on (by exact hz.1.vw) ?_
        refine Sx.skip rfl rfl rfl rfl rfl rfl ?_
        refine Sx.calm rfl rfl (Cm.pick_f rfl rfl) rfl ?_
        refine Sx.nil ?_
        refine At.weak [(0, _), (1, _), (2, _), (3, _), (8, _), (9, _), (34, _)] ⟨rfl, rfl, rfl, rfl, rfl, rfl, rfl, trivial⟩ ?_
        refine At.go ?_
        refine Sc.cond_f rfl ?_
        refine Sc.exit ?_
        refine At.then_exit ?_
        refine At.then_exit ?_
        refine At.block_hit ?_
        refine At.block_normal ?_
        first
          | exact At.cut zs ⟨rfl, rfl, rfl, rfl, rfl, trivial⟩ ⟨hz5, hs2, hI.done haj hji hstop⟩
          | exact At.cut zs ⟨rfl, rfl, rfl, rfl, rfl, trivial⟩ ⟨hz.draws 1, hs2, hI.done haj hji hstop⟩
    ·
      rintro vs w8 ⟨hv8, hs8, ht8⟩
      refine Sc.region ?_
      refine Sl.calm (Cm.move rfl) rfl ?_
      refine Sl.calm (Cm.add64 rfl rfl (by omega)) rfl ?_
      refine Sl.calm (Cm.assign rfl) rfl ?_
      refine Sl.nil ?_
      exact At.again ⟨i + 1, vs⟩ ⟨rfl, rfl, rfl, rfl, rfl, trivial⟩ ⟨⟨by omega, .inl (by omega)⟩, hv8, by rw [Nat.min_eq_left (by omega)]; exact hs8, ht8⟩ (by show b - (i + 1) < b - i; omega)
  ·
    have hbi : b ≤ i := by omega
    refine Sl.nil ?_
    refine At.weak [(0, _), (1, _), (2, _), (3, _), (8, _), (14, _)] ⟨rfl, rfl, rfl, rfl, rfl, rfl, trivial⟩ ?_
    refine At.go ?_
    refine Sc.cond_f rfl ?_
    refine Sc.exit ?_
    refine At.then_exit ?_
    refine At.then_exit ?_
    refine At.block_hit ?_
    refine At.end0 rfl ?_
    refine ⟨_, rfl, rfl, ys, hy, by rw [Nat.min_eq_right hbi] at hs1; exact hs1, fun p q h1 h2 h3 => ht1 p q h1 h2 (by omega)⟩
end Go.Proofs.Ytpnfjfbfgaiolaa
