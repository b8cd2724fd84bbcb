/- slices.SortStableFunc over numbers. No condition beyond the bounds that each states. -/
import Derived.Test.YtpnfjfbfgaiolaaTsE
namespace Go.Proofs.Ytpnfjfbfgaiolaa
open Go Go.RowKit
set_option linter.unusedVariables false

section
variable {K : Int → List (List UInt8)} {ys zs : List Int} {n : Nat}
/-- at each n-th place all that is ahead is less than all behind -/
def BI (bs n : Nat) (ys : List Int) : Prop := ∀ q i j : Nat, i < q * bs → q * bs ≤ j → j < n → ys.getD i 0 < ys.getD j 0
theorem Seg.bi {bs a b q : Nat} (h : Seg ys zs a b) (ha : a = q * bs) (hb : b ≤ a + bs) (hbn : b ≤ n) (g : BI bs n ys) : BI bs n zs := by
  intro p i j hi hj hjn
  obtain ⟨i', i1, i2⟩ : ∃ i', (i' = i ∧ ¬ (a ≤ i ∧ i < b) ∨ (a ≤ i ∧ i < b ∧ a ≤ i' ∧ i' < b)) ∧ zs.getD i 0 = ys.getD i' 0 := by
    by_cases k : a ≤ i ∧ i < b
    · obtain ⟨i', a1, a2, a3⟩ := h.2.2.2 i k.1 k.2
      exact ⟨i', .inr ⟨k.1, k.2, a1, a2⟩, a3⟩
    · exact ⟨i, .inl ⟨rfl, k⟩, h.2.2.1 i (by omega)⟩
  obtain ⟨j', j1, j2⟩ : ∃ j', (j' = j ∧ ¬ (a ≤ j ∧ j < b) ∨ (a ≤ j ∧ j < b ∧ a ≤ j' ∧ j' < b)) ∧ zs.getD j 0 = ys.getD j' 0 := by
    by_cases k : a ≤ j ∧ j < b
    · obtain ⟨j', a1, a2, a3⟩ := h.2.2.2 j k.1 k.2
      exact ⟨j', .inr ⟨k.1, k.2, a1, a2⟩, a3⟩
    · exact ⟨j, .inl ⟨rfl, k⟩, h.2.2.1 j (by omega)⟩
  rw [i2, j2]
  rcases Nat.lt_or_ge q p with hpq | hpq
  · have : (q + 1) * bs ≤ p * bs := Nat.mul_le_mul_right bs hpq
    rw [Nat.add_mul, Nat.one_mul] at this
    exact g p i' j' (by omega) (by omega) (by omega)
  · have : p * bs ≤ q * bs := Nat.mul_le_mul_right bs hpq
    exact g p i' j' (by omega) (by omega) (by omega)
def BSn (K : Int → List (List UInt8)) (bs n : Nat) (ys : List Int) : Prop := ∀ q : Nat, Srt K ys (q * bs) (min (q * bs + bs) n)
theorem Srt.sub {a b a' b' : Nat} (h : Srt K ys a b) (ha : a ≤ a') (hb : b' ≤ b) : Srt K ys a' b' := fun i j h1 h2 h3 => h i j (by omega) h2 (by omega)
theorem Srt.none {a b : Nat} (h : b ≤ a) : Srt K ys a b := fun i j h1 h2 h3 => by omega
end
set_option maxHeartbeats 4000000 in
theorem stableS_ok {K : Int → List (List UInt8)} {V : Int → Prop} {f : FuncId} {cs : List Value} (W0 : World) (o : Option Addr) (hC : CmpS W0 o f cs V K) (c n : Nat) (hn : n ≤ 100000) (xs : List Int) (W : World) (h : StI W0 o c n xs W) (hV : ∀ z ∈ xs, V z) (hinc : Inc xs 0 n) :
    Calls Try.prog 63 [.slice o n c, .int .i64 n, .func (.func f) #[] cs.toArray].toArray W (Ret fun v w' => v = .tuple #[] ∧ ∃ ys, StI W0 o c n ys w' ∧ ys.Perm xs ∧ Srt K ys 0 n) := by
  refine calls_of_sc 63 [(0, _), (1, _), (2, _)] Try.func63 rfl rfl rfl (enter_slots ⟨rfl, rfl, rfl, trivial⟩) ?_
  refine Sc.seq ?_
  refine Sc.region ?_
  refine Sl.calm (Cm.assign rfl) rfl ?_
  refine Sl.nil ?_
  refine At.go ?_
  refine Sc.seq ?_
  refine Sc.region ?_
  refine Sl.calm (Cm.move rfl) rfl ?_
  refine Sl.calm (Cm.assign rfl) rfl ?_
  refine Sl.calm (Cm.assign rfl) rfl ?_
  refine Sl.nil ?_
  refine At.weak [(0, _), (1, _), (2, _), (6, _), (7, _), (8, _)] ⟨rfl, rfl, rfl, rfl, rfl, rfl, trivial⟩ ?_
  refine At.go ?_
  refine Sc.seq ?_
  refine Sc.block ?_
  refine Sc.loop (β := Nat × List Int) (fun ⟨q, ys⟩ => [(0, .slice o n c), (1, .int .i64 n), (2, .func (.func f) #[] cs.toArray), (6, .int .i64 20), (7, .int .i64 ((q * 20 : Nat) : Int)), (8, .int .i64 ((q * 20 + 20 : Nat) : Int))]) (fun ⟨q, ys⟩ w => q * 20 ≤ n ∧ StI W0 o c n ys w ∧ ys.Perm xs ∧ BI 20 n ys ∧ (∀ p, p < q → Srt K ys (p * 20) (p * 20 + 20)) ∧ ∀ k, q * 20 ≤ k → ys.getD k 0 = xs.getD k 0) (fun ⟨q, ys⟩ => n - q * 20) ⟨0, xs⟩ ⟨rfl, rfl, rfl, rfl, rfl, rfl, trivial⟩ ⟨by omega, h, List.Perm.refl _, fun q i j i1 i2 i3 => hinc i j (Nat.zero_le _) (by omega) i3, fun p hp => by omega, fun _ _ => rfl⟩ ?_
  rintro ⟨q, ys⟩ w2 ⟨hq, hy, hyp, hyb, hys, hyk⟩
  refine Sc.seq ?_
  refine Sc.seq ?_
  refine Sc.region ?_
  refine Sl.calm (Cm.move rfl) rfl ?_
  refine Sl.calm (Cm.move rfl) rfl ?_
  refine Sl.fork (Cm.leq rfl rfl) rfl (fun h13 => ?_) (fun h13 => ?_)
  ·
    have hb : q * 20 + 20 ≤ n := by omega
    refine Sl.nil ?_
    refine At.weak [(0, _), (1, _), (2, _), (6, _), (7, _), (8, _), (13, _)] ⟨rfl, rfl, rfl, rfl, rfl, rfl, rfl, trivial⟩ ?_
    refine At.go ?_
    refine Sc.cond_t rfl ?_
    refine Sc.skip ?_
    refine At.go ?_
    refine Sc.block ?_
    refine Sc.seq ?_
    refine Sc.region ?_
    refine Sl.calm (Cm.move rfl) rfl ?_
    refine Sl.calm (Cm.move rfl) rfl ?_
    refine Sl.calm (Cm.move rfl) rfl ?_
    refine Sl.calm (Cm.move rfl) rfl ?_
    refine Sl.call fn73 rfl (insertS_ok W0 o hC c n (q * 20) (q * 20 + 20) ys w2 hy (fun z hz => hV z (hyp.mem_iff.1 hz)) (by omega) hb (by omega) (fun i j i1 i2 i3 => by rw [hyk i i1, hyk j (by omega)]; exact hinc i j (Nat.zero_le _) i2 (by omega))) rfl ?_
    rintro _ w3 ⟨rfl, zs, hz, hzg, hzs⟩
    refine Sl.nil ?_
    refine At.weak [(0, _), (1, _), (2, _), (6, _), (7, _), (8, _), (13, _)] ⟨rfl, rfl, rfl, rfl, rfl, rfl, rfl, trivial⟩ ?_
    refine At.go ?_
    refine Sc.seq ?_
    refine Sc.region ?_
    refine Sl.calm (Cm.move rfl) rfl ?_
    refine Sl.calm (Cm.assign rfl) rfl ?_
    refine Sl.nil ?_
    refine At.weak [(0, _), (1, _), (2, _), (6, _), (7, _), (8, _), (13, _)] ⟨rfl, rfl, rfl, rfl, rfl, rfl, rfl, trivial⟩ ?_
    refine At.go ?_
    refine Sc.region ?_
    refine Sl.calm (Cm.move rfl) rfl ?_
    refine Sl.calm (Cm.move rfl) rfl ?_
    refine Sl.calm (Cm.add64 rfl rfl (by omega)) rfl ?_
    refine Sl.calm (Cm.assign rfl) rfl ?_
    refine Sl.nil ?_
    refine At.block_normal ?_
    refine At.again ⟨q + 1, zs⟩ ⟨rfl, rfl, rfl, rfl, congrArg (fun z : Int => some (Value.int .i64 z)) (by omega), congrArg (fun z : Int => some (Value.int .i64 z)) (by omega), trivial⟩ ⟨by omega, hz, hzg.2.1.trans hyp, hzg.bi rfl (Nat.le_refl _) hb hyb, fun p hp => ?_, fun k hk => by rw [hzg.2.2.1 k (.inr (by omega))]; exact hyk k (by omega)⟩ (by show n - (q + 1) * 20 < n - q * 20; omega)
    by_cases e : p = q
    · subst e; exact hzs
    · exact srt_same (hys p (by omega)) (fun k k1 k2 => hzg.2.2.1 k (.inl (by omega)))
  ·
    have hb : ¬ q * 20 + 20 ≤ n := by omega
    refine Sl.nil ?_
    refine At.weak [(0, _), (1, _), (2, _), (6, _), (7, _), (8, _), (13, _)] ⟨rfl, rfl, rfl, rfl, rfl, rfl, rfl, trivial⟩ ?_
    refine At.go ?_
    refine Sc.cond_f rfl ?_
    refine Sc.exit ?_
    refine At.then_exit ?_
    refine At.then_exit ?_
    refine At.block_hit ?_
    refine At.go ?_
    refine Sc.seq ?_
    refine Sc.region ?_
    refine Sl.calm (Cm.move rfl) rfl ?_
    refine Sl.calm (Cm.move rfl) rfl ?_
    refine Sl.calm (Cm.move rfl) rfl ?_
    refine Sl.calm (Cm.move rfl) rfl ?_
    refine Sl.call fn73 rfl (insertS_ok W0 o hC c n (q * 20) n ys w2 hy (fun z hz => hV z (hyp.mem_iff.1 hz)) (by omega) (Nat.le_refl _) (by omega) (fun i j i1 i2 i3 => by rw [hyk i i1, hyk j (by omega)]; exact hinc i j (Nat.zero_le _) i2 (by omega))) rfl ?_
    rintro _ w3 ⟨rfl, zs, hz, hzg, hzs⟩
    have hzn : BSn K 20 n zs := fun p => by
      rcases Nat.lt_trichotomy p q with hp | hp | hp
      · have : (p + 1) * 20 ≤ q * 20 := Nat.mul_le_mul_right 20 hp
        exact srt_same (hys p hp) (fun k k1 k2 => hzg.2.2.1 k (.inl (by omega))) |>.sub (Nat.le_refl _) (by omega)
      · subst hp; exact hzs.sub (Nat.le_refl _) (by omega)
      · exact Srt.none (by omega)
    have hzb : BI 20 n zs := hzg.bi rfl (by omega) (Nat.le_refl _) hyb
    have hzp := hzg.2.1.trans hyp
    refine Sl.nil ?_
    refine At.weak [(0, _), (1, _), (2, _), (6, _), (7, _), (8, _), (13, _)] ⟨rfl, rfl, rfl, rfl, rfl, rfl, rfl, trivial⟩ ?_
    refine At.go ?_
    refine Sc.block ?_
    refine Sc.loop (β := Nat × List Int) (fun ⟨bs, vs⟩ => [(0, .slice o n c), (1, .int .i64 n), (2, .func (.func f) #[] cs.toArray), (6, .int .i64 bs)]) (fun ⟨bs, vs⟩ w => (20 ≤ bs ∧ bs ≤ 1000000) ∧ StI W0 o c n vs w ∧ vs.Perm xs ∧ BI bs n vs ∧ BSn K bs n vs) (fun ⟨bs, vs⟩ => n - bs) ⟨20, zs⟩ ⟨rfl, rfl, rfl, rfl, trivial⟩ ⟨⟨by omega, by omega⟩, hz, hzp, hzb, hzn⟩ ?_
    rintro ⟨bs, vs⟩ w4 ⟨⟨hbs, hbl⟩, hv4, hvp, hvb, hvs⟩
    refine Sc.seq ?_
    refine Sc.seq ?_
    refine Sc.region ?_
    refine Sl.calm (Cm.move rfl) rfl ?_
    refine Sl.calm (Cm.move rfl) rfl ?_
    refine Sl.fork (Cm.lss rfl rfl) rfl (fun h30 => ?_) (fun h30 => ?_)
    ·
      refine Sl.nil ?_
      refine At.weak [(0, _), (1, _), (2, _), (6, _), (30, _)] ⟨rfl, rfl, rfl, rfl, rfl, trivial⟩ ?_
      refine At.go ?_
      refine Sc.cond_t rfl ?_
      refine Sc.skip ?_
      refine At.go ?_
      refine Sc.block ?_
      refine Sc.seq ?_
      refine Sc.region ?_
      refine Sl.calm (Cm.move rfl) rfl ?_
      refine Sl.calm (Cm.mul64 rfl rfl (by omega)) rfl ?_
      refine Sl.calm (Cm.assign rfl) rfl ?_
      refine Sl.calm (Cm.assign rfl) rfl ?_
      refine Sl.nil ?_
      refine At.weak [(0, _), (1, _), (2, _), (6, _), (7, _), (8, _), (30, _)] ⟨rfl, rfl, rfl, rfl, rfl, rfl, rfl, trivial⟩ ?_
      refine At.go ?_
      refine Sc.seq ?_
      refine Sc.block ?_
      refine Sc.loop (β := Nat × Nat × List Int) (fun ⟨q, a, zs⟩ => [(0, .slice o n c), (1, .int .i64 n), (2, .func (.func f) #[] cs.toArray), (6, .int .i64 bs), (7, .int .i64 a), (8, .int .i64 ((a + 2 * bs : Nat) : Int))]) (fun ⟨q, a, zs⟩ w => (a = q * (2 * bs) ∧ a ≤ n) ∧ StI W0 o c n zs w ∧ zs.Perm xs ∧ BI (2 * bs) n zs ∧ (∀ p, p < q → Srt K zs (p * (2 * bs)) (p * (2 * bs) + 2 * bs)) ∧ (∀ p, a ≤ p * bs → Srt K zs (p * bs) (min (p * bs + bs) n)) ∧ (∀ p i j : Nat, a ≤ p * bs → i < p * bs → p * bs ≤ j → j < n → zs.getD i 0 < zs.getD j 0)) (fun ⟨q, a, zs⟩ => n - a) ⟨0, 0, vs⟩ ⟨rfl, rfl, rfl, rfl, rfl, (congrArg (fun z : Int => some (Value.int .i64 z)) (by omega)), trivial⟩ ⟨⟨by omega, by omega⟩, hv4, hvp, fun p i j i1 i2 i3 => hvb (2 * p) i j (by rw [Nat.mul_comm 2 p, Nat.mul_assoc]; exact i1) (by rw [Nat.mul_comm 2 p, Nat.mul_assoc]; exact i2) i3, fun p hp => by omega, fun p _ => hvs p, fun p i j _ i1 i2 i3 => hvb p i j i1 i2 i3⟩ ?_
      rintro ⟨q, a, zs⟩ w5 ⟨⟨ha, han⟩, hz5, hz5p, hb2, hsp, hsu, hbu⟩
      refine Sc.seq ?_
      refine Sc.seq ?_
      refine Sc.region ?_
      refine Sl.calm (Cm.move rfl) rfl ?_
      refine Sl.calm (Cm.move rfl) rfl ?_
      refine Sl.fork (Cm.leq rfl rfl) rfl (fun h35 => ?_) (fun h35 => ?_)
      ·
        have hb : a + 2 * bs ≤ n := by omega
        refine Sl.nil ?_
        refine At.weak [(0, _), (1, _), (2, _), (6, _), (7, _), (8, _), (35, _)] ⟨rfl, rfl, rfl, rfl, rfl, rfl, rfl, trivial⟩ ?_
        refine At.go ?_
        refine Sc.cond_t rfl ?_
        refine Sc.skip ?_
        refine At.go ?_
        refine Sc.block ?_
        refine Sc.seq ?_
        refine Sc.region ?_
        refine Sl.calm (Cm.move rfl) rfl ?_
        refine Sl.calm (Cm.move rfl) rfl ?_
        refine Sl.calm (Cm.move rfl) rfl ?_
        refine Sl.calm (Cm.move rfl) rfl ?_
        refine Sl.calm (Cm.add64 rfl rfl (by omega)) rfl ?_
        refine Sl.calm (Cm.move rfl) rfl ?_
        refine Sl.calm (Cm.move rfl) rfl ?_
        have e1 : 2 * q * bs = a := by rw [ha, Nat.mul_comm 2 q, Nat.mul_assoc]
        have e2 : (2 * q + 1) * bs = a + bs := by rw [Nat.add_mul, Nat.one_mul, e1]
        have e3 : (q + 1) * (2 * bs) = a + 2 * bs := by rw [Nat.add_mul, Nat.one_mul, ha]
        refine Sl.call fn74 rfl ((by rw [show ((a : Int) + bs) = ((a + bs : Nat) : Int) by omega]; exact symS_ok W0 o hC c n (by omega) (a + 2 * bs - a) a (a + bs) (a + 2 * bs) zs w5 (Nat.le_refl _) hz5 (fun z hz => hV z (hz5p.mem_iff.1 hz)) (by omega) (by omega) hb (by have h9 := hsu (2 * q) (by omega); rw [e1] at h9; exact h9.sub (Nat.le_refl _) (by omega)) (by have h9 := hsu (2 * q + 1) (by omega); rw [e2] at h9; exact h9.sub (Nat.le_refl _) (by omega)) (fun i j i1 i2 i3 i4 => hbu (2 * q + 1) i j (by omega) (by omega) (by omega) (by omega)))) rfl ?_
        rintro _ w6 ⟨rfl, us, hu, hug, hus⟩
        refine Sl.nil ?_
        refine At.weak [(0, _), (1, _), (2, _), (6, _), (7, _), (8, _), (35, _)] ⟨rfl, rfl, rfl, rfl, rfl, rfl, rfl, trivial⟩ ?_
        refine At.go ?_
        refine Sc.seq ?_
        refine Sc.region ?_
        refine Sl.calm (Cm.move rfl) rfl ?_
        refine Sl.calm (Cm.assign rfl) rfl ?_
        refine Sl.nil ?_
        refine At.weak [(0, _), (1, _), (2, _), (6, _), (7, _), (8, _), (35, _)] ⟨rfl, rfl, rfl, rfl, rfl, rfl, rfl, trivial⟩ ?_
        refine At.go ?_
        refine Sc.region ?_
        refine Sl.calm (Cm.move rfl) rfl ?_
        refine Sl.calm (Cm.move rfl) rfl ?_
        refine Sl.calm (Cm.mul64 rfl rfl (by omega)) rfl ?_
        refine Sl.calm (Cm.add64 rfl rfl (by omega)) rfl ?_
        refine Sl.calm (Cm.assign rfl) rfl ?_
        refine Sl.nil ?_
        refine At.block_normal ?_
        refine At.again ⟨q + 1, a + 2 * bs, us⟩ ⟨rfl, rfl, rfl, rfl, rfl, congrArg (fun z : Int => some (Value.int .i64 z)) (by omega), trivial⟩ ⟨⟨e3.symm, hb⟩, hu, hug.2.1.trans hz5p, hug.bi ha (Nat.le_refl _) hb hb2, fun p hp => ?_, fun p hp => srt_same (hsu p (by omega)) (fun k k1 k2 => hug.2.2.1 k (.inr (by omega))), fun p i j hp i1 i2 i3 => ?_⟩ (by show n - (a + 2 * bs) < n - a; omega)
        · by_cases e : p = q
          · subst e; rw [← ha]; exact hus
          · have := Nat.mul_le_mul_right (2 * bs) (show p + 1 ≤ q by omega)
            rw [Nat.add_mul, Nat.one_mul] at this
            exact srt_same (hsp p (by omega)) (fun k k1 k2 => hug.2.2.1 k (.inl (by omega)))
        · rw [hug.2.2.1 j (.inr (by omega))]
          by_cases hi : a ≤ i ∧ i < a + 2 * bs
          · obtain ⟨i', a1, a2, a3⟩ := hug.2.2.2 i hi.1 hi.2
            rw [a3]; exact hbu p i' j (by omega) (by omega) i2 i3
          · rw [hug.2.2.1 i (by omega)]; exact hbu p i j (by omega) i1 i2 i3
      ·
        have hb : ¬ a + 2 * bs ≤ n := by omega
        refine Sl.nil ?_
        refine At.weak [(0, _), (1, _), (2, _), (6, _), (7, _), (8, _), (35, _)] ⟨rfl, rfl, rfl, rfl, rfl, rfl, rfl, trivial⟩ ?_
        refine At.go ?_
        refine Sc.cond_f rfl ?_
        refine Sc.exit ?_
        refine At.then_exit ?_
        refine At.then_exit ?_
        refine At.block_hit ?_
        refine At.go ?_
        refine Sc.cut (β := List Int) (fun vs => [(0, .slice o n c), (1, .int .i64 n), (2, .func (.func f) #[] cs.toArray), (6, .int .i64 bs)]) (fun vs w => StI W0 o c n vs w ∧ vs.Perm xs ∧ BI (2 * bs) n vs ∧ BSn K (2 * bs) n vs) ?_ ?_
        ·
          refine Sc.seq ?_
          refine Sc.region ?_
          refine Sl.calm (Cm.move rfl) rfl ?_
          refine Sl.calm (Cm.move rfl) rfl ?_
          refine Sl.calm (Cm.add64 rfl rfl (by omega)) rfl ?_
          refine Sl.calm (Cm.assign rfl) rfl ?_
          refine Sl.nil ?_
          refine At.weak [(0, _), (1, _), (2, _), (6, _), (7, _), (8, _), (9, _), (35, _)] ⟨rfl, rfl, rfl, rfl, rfl, rfl, rfl, rfl, trivial⟩ ?_
          refine At.go ?_
          refine Sc.seq ?_
          refine Sc.region ?_
          refine Sl.calm (Cm.move rfl) rfl ?_
          refine Sl.calm (Cm.move rfl) rfl ?_
          refine Sl.fork (Cm.lss rfl rfl) rfl (fun h54 => ?_) (fun h54 => ?_)
          ·
            refine Sl.nil ?_
            refine At.weak [(0, _), (1, _), (2, _), (6, _), (7, _), (8, _), (9, _), (35, _), (54, _)] ⟨rfl, rfl, rfl, rfl, rfl, rfl, rfl, rfl, rfl, trivial⟩ ?_
            refine At.go ?_
            refine Sc.cond_t rfl ?_
            refine Sc.region ?_
            refine Sl.calm (Cm.move rfl) rfl ?_
            refine Sl.calm (Cm.move rfl) rfl ?_
            refine Sl.calm (Cm.move rfl) rfl ?_
            refine Sl.calm (Cm.move rfl) rfl ?_
            refine Sl.calm (Cm.move rfl) rfl ?_
            have e1 : 2 * q * bs = a := by rw [ha, Nat.mul_comm 2 q, Nat.mul_assoc]
            have e2 : (2 * q + 1) * bs = a + bs := by rw [Nat.add_mul, Nat.one_mul, e1]
            refine Sl.call fn74 rfl ((by rw [show ((a : Int) + bs) = ((a + bs : Nat) : Int) by omega]; exact symS_ok W0 o hC c n (by omega) (n - a) a (a + bs) n zs w5 (Nat.le_refl _) hz5 (fun z hz => hV z (hz5p.mem_iff.1 hz)) (by omega) (by omega) (Nat.le_refl _) (by have h9 := hsu (2 * q) (by omega); rw [e1] at h9; exact h9.sub (Nat.le_refl _) (by omega)) (by have h9 := hsu (2 * q + 1) (by omega); rw [e2] at h9; exact h9.sub (Nat.le_refl _) (by omega)) (fun i j i1 i2 i3 i4 => hbu (2 * q + 1) i j (by omega) (by omega) (by omega) (by omega)))) rfl ?_
            rintro _ w6 ⟨rfl, us, hu, hug, hus⟩
            refine Sl.nil ?_
            first
              | exact At.cut us ⟨rfl, rfl, rfl, rfl, trivial⟩ ⟨hu, hug.2.1.trans hz5p, hug.bi ha (by omega) (Nat.le_refl _) hb2, fun p => by
                  rcases Nat.lt_trichotomy p q with hp | hp | hp
                  · have := Nat.mul_le_mul_right (2 * bs) hp
                    rw [Nat.succ_eq_add_one, Nat.add_mul, Nat.one_mul] at this
                    exact (srt_same (hsp p hp) (fun k k1 k2 => hug.2.2.1 k (.inl (by omega)))).sub (Nat.le_refl _) (by omega)
                  · subst hp; rw [← ha]; exact hus.sub (Nat.le_refl _) (by omega)
                  · have := Nat.mul_le_mul_right (2 * bs) hp
                    rw [Nat.succ_eq_add_one, Nat.add_mul, Nat.one_mul] at this
                    exact Srt.none (by omega)⟩
              | exact At.cut zs ⟨rfl, rfl, rfl, rfl, trivial⟩ ⟨hz5, hz5p, hb2, fun p => by
                  rcases Nat.lt_trichotomy p q with hp | hp | hp
                  · exact (hsp p hp).sub (Nat.le_refl _) (by omega)
                  · subst hp
                    have e1 : 2 * p * bs = a := by rw [ha, Nat.mul_comm 2 p, Nat.mul_assoc]
                    have h9 := hsu (2 * p) (by omega)
                    rw [e1] at h9
                    rw [← ha]; exact h9.sub (Nat.le_refl _) (by omega)
                  · have := Nat.mul_le_mul_right (2 * bs) hp
                    rw [Nat.succ_eq_add_one, Nat.add_mul, Nat.one_mul] at this
                    exact Srt.none (by omega)⟩
          ·
            refine Sl.nil ?_
            refine At.weak [(0, _), (1, _), (2, _), (6, _), (7, _), (8, _), (9, _), (35, _), (54, _)] ⟨rfl, rfl, rfl, rfl, rfl, rfl, rfl, rfl, rfl, trivial⟩ ?_
            refine At.go ?_
            refine Sc.cond_f rfl ?_
            refine Sc.skip ?_
            first
              | exact At.cut us ⟨rfl, rfl, rfl, rfl, trivial⟩ ⟨hu, hug.2.1.trans hz5p, hug.bi ha (by omega) (Nat.le_refl _) hb2, fun p => by
                  rcases Nat.lt_trichotomy p q with hp | hp | hp
                  · have := Nat.mul_le_mul_right (2 * bs) hp
                    rw [Nat.succ_eq_add_one, Nat.add_mul, Nat.one_mul] at this
                    exact (srt_same (hsp p hp) (fun k k1 k2 => hug.2.2.1 k (.inl (by omega)))).sub (Nat.le_refl _) (by omega)
                  · subst hp; rw [← ha]; exact hus.sub (Nat.le_refl _) (by omega)
                  · have := Nat.mul_le_mul_right (2 * bs) hp
                    rw [Nat.succ_eq_add_one, Nat.add_mul, Nat.one_mul] at this
                    exact Srt.none (by omega)⟩
              | exact At.cut zs ⟨rfl, rfl, rfl, rfl, trivial⟩ ⟨hz5, hz5p, hb2, fun p => by
                  rcases Nat.lt_trichotomy p q with hp | hp | hp
                  · exact (hsp p hp).sub (Nat.le_refl _) (by omega)
                  · subst hp
                    have e1 : 2 * p * bs = a := by rw [ha, Nat.mul_comm 2 p, Nat.mul_assoc]
                    have h9 := hsu (2 * p) (by omega)
                    rw [e1] at h9
                    rw [← ha]; exact h9.sub (Nat.le_refl _) (by omega)
                  · have := Nat.mul_le_mul_right (2 * bs) hp
                    rw [Nat.succ_eq_add_one, Nat.add_mul, Nat.one_mul] at this
                    exact Srt.none (by omega)⟩
        ·
          rintro vs w8 ⟨hv8, hv8p, hv8b, hv8s⟩
          refine Sc.region ?_
          refine Sl.calm (Cm.move rfl) rfl ?_
          refine Sl.calm (Cm.mul64 rfl rfl (by omega)) rfl ?_
          refine Sl.calm (Cm.assign rfl) rfl ?_
          refine Sl.nil ?_
          refine At.block_normal ?_
          exact At.again ⟨2 * bs, vs⟩ ⟨rfl, rfl, rfl, congrArg (fun z : Int => some (Value.int .i64 z)) (by omega), trivial⟩ ⟨⟨by omega, by omega⟩, hv8, hv8p, hv8b, hv8s⟩ (by show n - 2 * bs < n - bs; omega)
    ·
      refine Sl.nil ?_
      refine At.weak [(0, _), (1, _), (2, _), (6, _), (30, _)] ⟨rfl, rfl, rfl, rfl, rfl, trivial⟩ ?_
      refine At.go ?_
      refine Sc.cond_f rfl ?_
      refine Sc.exit ?_
      refine At.then_exit ?_
      refine At.then_exit ?_
      refine At.block_hit ?_
      refine At.end0 rfl ?_
      refine ⟨_, rfl, rfl, vs, hv4, hvp, ?_⟩
      have h9 := hvs 0
      rw [Nat.zero_mul] at h9
      exact h9.sub (Nat.le_refl _) (by omega)
theorem sortStable_ok {K : Int → List (List UInt8)} {V : Int → Prop} {f : FuncId} {cs : List Value} (W0 : World) (o : Option Addr) (hC : CmpS W0 o f cs V K) (c n : Nat) (hn : n ≤ 100000) (xs : List Int) (W : World) (h : StI W0 o c n xs W) (hV : ∀ z ∈ xs, V z) (hinc : Inc xs 0 n) :
    Calls Try.prog 39 [.slice o n c, .func (.func f) #[] cs.toArray].toArray W (Ret fun v w' => v = .tuple #[] ∧ ∃ ys, StI W0 o c n ys w' ∧ ys.Perm xs ∧ Srt K ys 0 n) := by
  refine calls_of_sc 9 [(0, _), (1, _)] Try.func39 rfl rfl rfl (enter_slots ⟨rfl, rfl, trivial⟩) ?_
  refine Sc.region ?_
  refine Sl.calm (Cm.move rfl) rfl ?_
  refine Sl.calm (Cm.move rfl) rfl ?_
  refine Sl.calm (Cm.len sl37 rfl) rfl ?_
  refine Sl.calm (Cm.move rfl) rfl ?_
  refine Sl.call fn63 rfl (stableS_ok W0 o hC c n hn xs W h hV hinc) rfl ?_
  rintro _ w1 ⟨rfl, ys, hy, hyp, hys⟩
  refine Sl.nil ?_
  refine At.end0 rfl ?_
  exact ⟨_, rfl, rfl, ys, hy, hyp, hys⟩
end Go.Proofs.Ytpnfjfbfgaiolaa
