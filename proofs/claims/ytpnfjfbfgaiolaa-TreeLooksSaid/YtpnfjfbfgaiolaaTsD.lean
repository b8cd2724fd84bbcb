/- slices.SortStableFunc over numbers: what symMerge leans on, in plain Lean. No condition beyond the bounds that each states. -/
import Derived.Test.YtpnfjfbfgaiolaaTsC
namespace Go.Proofs.Ytpnfjfbfgaiolaa
open Go Go.RowKit
set_option linter.unusedVariables false

section
variable {P : Program} {N : Nt} {l : SF} {ty t' : TypeId} {pos : String} {aft : Array Edge} {dd : Option Nat} {g : Option (Nat × Bool)} {CH : Array Obj → Prop} {x y : Operand} {t : TypeId} {m n : Int} {k' : IntKind}
theorem Cm.shrU (hx : evL l x = some (.int .u64 m)) (hy : evL l y = some (.int k' n)) (hn : 0 ≤ n ∧ n ≤ 64) : Cm P N CH l ⟨dd, .binOp .shr t x y t', ty, pos, aft, g⟩ (.int .u64 (m / 2 ^ n.toNat)) := fun a w ha _ => by
  have h1 : ¬ (n < 0) := by omega
  have h2 : min n.toNat 64 = n.toNat := by omega
  have h3 : m.fdiv (2 ^ n.toNat) = m / 2 ^ n.toNat := Int.fdiv_eq_ediv_of_nonneg _ (Int.pow_nonneg (by decide))
  have h4 : (Op.shift .shr .u64 m k' n).run P w = .ok (.int .u64 (m / 2 ^ n.toNat)) w := by
    unfold Op.shift
    rw [if_neg h1]
    show (pure (Value.int .u64 (m.fdiv (2 ^ min n.toNat 64))) : Sem Value).run P w = _
    rw [h2, h3]; rfl
  simp only [execOp, ha.ev hx, ha.ev hy, eqGuard, binOp, Sem.run_bind]
  simp
end
theorem wrapU {z : Int} (h : 0 ≤ z ∧ z < 18446744073709551616) : IntKind.u64.wrap z = z := by
  unfold IntKind.wrap; simp [IntKind.bits, IntKind.signed]; omega

theorem halfI {i j : Nat} (h : i + j < 4611686018427387904) : IntKind.i64.wrap (((i : Int) + j) / 2 ^ (1 : Int).toNat) = (((i + j) / 2 : Nat) : Int) := by
  have e : (2 : Int) ^ (1 : Int).toNat = 2 := rfl
  rw [e, wrap64_id (by omega)]; omega
section
variable {K : Int → List (List UInt8)} {xs ys : List Int}
theorem srt_le {a b i j : Nat} {z : Int} (h : Srt K xs a b) (hi : a ≤ i) (hij : i ≤ j) (hj : j < b) (hz : ltS K (xs.getD j 0) z) : ltS K (xs.getD i 0) z := by
  by_cases e : i = j
  · rw [e]; exact hz
  · exact ltS_trans (h i j hi (by omega) hj) hz
theorem srt_ge {a b i j : Nat} {z : Int} (h : Srt K xs a b) (hi : a ≤ i) (hij : i ≤ j) (hj : j < b) (hz : ltS K z (xs.getD i 0)) : ltS K z (xs.getD j 0) := by
  by_cases e : i = j
  · rw [← e]; exact hz
  · exact ltS_trans hz (h i j hi (by omega) hj)
/-- one that goes up, past others -/
def ux (a k p : Nat) : Nat := if a ≤ p ∧ p < k then p + 1 else if p = k then a else p
theorem ux_spec (a k p : Nat) : (a ≤ p ∧ p < k ∧ ux a k p = p + 1) ∨ (¬ (a ≤ p ∧ p < k) ∧ p = k ∧ ux a k p = a) ∨ (¬ (a ≤ p ∧ p < k) ∧ p ≠ k ∧ ux a k p = p) := by
  unfold ux
  by_cases h1 : a ≤ p ∧ p < k
  · rw [if_pos h1]; exact .inl ⟨h1.1, h1.2, rfl⟩
  · rw [if_neg h1]
    by_cases h2 : p = k
    · rw [if_pos h2]; exact .inr (.inl ⟨h1, h2, rfl⟩)
    · rw [if_neg h2]; exact .inr (.inr ⟨h1, h2, rfl⟩)
theorem ux_zero (a p : Nat) : ux a a p = p := by have := ux_spec a a p; omega
theorem ux_succ {a k p : Nat} (h : a ≤ k) : ux a k (wx k (k + 1) p) = ux a (k + 1) p := by
  have h1 := wx_spec k (k + 1) p
  have h2 := ux_spec a k (wx k (k + 1) p)
  have h3 := ux_spec a (k + 1) p
  omega
/-- one that goes down -/
def dx (k m p : Nat) : Nat := if p = k then m else if k < p ∧ p ≤ m then p - 1 else p
theorem dx_spec (k m p : Nat) : (p = k ∧ dx k m p = m) ∨ (p ≠ k ∧ k < p ∧ p ≤ m ∧ dx k m p = p - 1) ∨ (p ≠ k ∧ ¬ (k < p ∧ p ≤ m) ∧ dx k m p = p) := by
  unfold dx
  by_cases h1 : p = k
  · rw [if_pos h1]; exact .inl ⟨h1, rfl⟩
  · rw [if_neg h1]
    by_cases h2 : k < p ∧ p ≤ m
    · rw [if_pos h2]; exact .inr (.inl ⟨h1, h2.1, h2.2, rfl⟩)
    · rw [if_neg h2]; exact .inr (.inr ⟨h1, h2, rfl⟩)
theorem dx_zero (m p : Nat) : dx m m p = p := by have := dx_spec m m p; omega
theorem dx_succ {k m p : Nat} (h : k < m) : dx (k + 1) m (wx (k + 1) k p) = dx k m p := by
  have h1 := wx_spec (k + 1) k p
  have h2 := dx_spec (k + 1) m (wx (k + 1) k p)
  have h3 := dx_spec k m p
  omega
theorem seg_of {a b : Nat} {s : Nat → Nat} (hp : ys.Perm xs) (hk : ∀ k, ys.getD k 0 = xs.getD (s k) 0) (h1 : ∀ k, (k < a ∨ b ≤ k) → s k = k) (h2 : ∀ k, a ≤ k → k < b → a ≤ s k ∧ s k < b) : Seg xs ys a b :=
  ⟨hp.length_eq, hp, fun k h => by rw [hk, h1 k h], fun k ha hb => ⟨s k, (h2 k ha hb).1, (h2 k ha hb).2, hk k⟩⟩
theorem up_srt {a b i : Nat} (h : Srt K xs (a + 1) b) (hai : a + 1 ≤ i) (hib : i ≤ b) (h1 : a + 1 < i → ltS K (xs.getD (i - 1) 0) (xs.getD a 0)) (h2 : i < b → ltS K (xs.getD a 0) (xs.getD i 0)) (hk : ∀ k, ys.getD k 0 = xs.getD (ux a (i - 1) k) 0) : Srt K ys a b := by
  have l1 : ∀ k, a + 1 ≤ k → k < i → ltS K (xs.getD k 0) (xs.getD a 0) := fun k p1 p2 => srt_le h p1 (show k ≤ i - 1 by omega) (by omega) (h1 (by omega))
  have l2 : ∀ k, i ≤ k → k < b → ltS K (xs.getD a 0) (xs.getD k 0) := fun k p1 p2 => srt_ge h (show a + 1 ≤ i by omega) p1 p2 (h2 (by omega))
  intro p q hp hpq hq
  rw [hk, hk]
  rcases ux_spec a (i - 1) p with ⟨_, s1, s2⟩ | ⟨s0, s1, s2⟩ | ⟨s0, s1, s2⟩ <;> rcases ux_spec a (i - 1) q with ⟨_, t1, t2⟩ | ⟨t0, t1, t2⟩ | ⟨t0, t1, t2⟩ <;> rw [s2, t2] <;> first | (exfalso; omega) | exact h _ _ (by omega) (by omega) (by omega) | exact l1 _ (by omega) (by omega) | exact l2 _ (by omega) (by omega)
theorem dn_srt {a m i : Nat} (h : Srt K xs a m) (hai : a ≤ i) (him : i ≤ m) (h1 : a < i → ltS K (xs.getD (i - 1) 0) (xs.getD m 0)) (h2 : i < m → ltS K (xs.getD m 0) (xs.getD i 0)) (hk : ∀ k, ys.getD k 0 = xs.getD (dx i m k) 0) : Srt K ys a (m + 1) := by
  have l1 : ∀ k, a ≤ k → k < i → ltS K (xs.getD k 0) (xs.getD m 0) := fun k p1 p2 => srt_le h p1 (show k ≤ i - 1 by omega) (by omega) (h1 (by omega))
  have l2 : ∀ k, i ≤ k → k < m → ltS K (xs.getD m 0) (xs.getD k 0) := fun k p1 p2 => srt_ge h hai p1 p2 (h2 (by omega))
  intro p q hp hpq hq
  rw [hk, hk]
  rcases dx_spec i m p with ⟨s1, s2⟩ | ⟨s0, s1, s3, s2⟩ | ⟨s0, s1, s2⟩ <;> rcases dx_spec i m q with ⟨t1, t2⟩ | ⟨t0, t1, t3, t2⟩ | ⟨t0, t1, t2⟩ <;> rw [s2, t2] <;> first | (exfalso; omega) | exact h _ _ (by omega) (by omega) (by omega) | exact l1 _ (by omega) (by omega) | exact l2 _ (by omega) (by omega)
/-- where two rows are cut that are laid together -/
structure Cut (K : Int → List (List UInt8)) (xs : List Int) (a m b s e md : Nat) : Prop where
  has : a ≤ s
  hsm : s ≤ m
  hme : m ≤ e
  heb : e ≤ b
  hmd : s + (e - m) = md
  x1 : ∀ i j : Nat, a ≤ i → i < s → e ≤ j → j < b → ltS K (xs.getD i 0) (xs.getD j 0)
  x2 : ∀ i j : Nat, s ≤ i → i < m → m ≤ j → j < e → ltS K (xs.getD j 0) (xs.getD i 0)
theorem rx_id {s m e k : Nat} (hs : s ≤ m) (he : m ≤ e) (h : ¬ (s < m ∧ m < e)) : rx s m e k = k := by
  have := rx_spec s m e k; omega
theorem Cut.halves {a m b s e md : Nat} (c : Cut K xs a m b s e md) (h1 : Srt K xs a m) (h2 : Srt K xs m b) (h3 : StB xs a m b) (hk : ∀ k, ys.getD k 0 = xs.getD (rx s m e k) 0) :
    Srt K ys a s ∧ Srt K ys s md ∧ StB ys a s md ∧ Srt K ys md e ∧ Srt K ys e b ∧ StB ys md e b ∧ ∀ i j : Nat, a ≤ i → i < md → md ≤ j → j < b → ltS K (ys.getD i 0) (ys.getD j 0) := by
  obtain ⟨c1, c2, c3, c4, c5, x1, x2⟩ := c
  have r : ∀ k, (s ≤ k ∧ k < md ∧ rx s m e k = k - s + m) ∨ (md ≤ k ∧ k < e ∧ rx s m e k = k - md + s) ∨ ((k < s ∨ e ≤ k) ∧ rx s m e k = k) := fun k => by have := rx_spec s m e k; omega
  refine ⟨fun i j p1 p2 p3 => ?_, fun i j p1 p2 p3 => ?_, fun i j p1 p2 p3 p4 => ?_, fun i j p1 p2 p3 => ?_, fun i j p1 p2 p3 => ?_, fun i j p1 p2 p3 p4 => ?_, fun i j p1 p2 p3 p4 => ?_⟩ <;> rw [hk, hk] <;> rcases r i with ⟨s1, s2, s3⟩ | ⟨s1, s2, s3⟩ | ⟨s1, s3⟩ <;> rcases r j with ⟨t1, t2, t3⟩ | ⟨t1, t2, t3⟩ | ⟨t1, t3⟩ <;> rw [s3, t3] <;>
    first | (exfalso; omega) | exact h1 _ _ (by omega) (by omega) (by omega) | exact h2 _ _ (by omega) (by omega) (by omega) | exact h3 _ _ (by omega) (by omega) (by omega) (by omega) | exact x1 _ _ (by omega) (by omega) (by omega) (by omega) | exact x2 _ _ (by omega) (by omega) (by omega) (by omega)
theorem cut_of {a m b md s : Nat} (ham : a < m) (hmb : m < b) (hmd : md = (a + b) / 2) (h1 : Srt K xs a m) (h2 : Srt K xs m b) {S0 R0 : Nat} (hSR : (md < m ∧ S0 = md + m - b ∧ R0 = md) ∨ (¬ md < m ∧ S0 = a ∧ R0 = m)) (hs0 : S0 ≤ s) (hsR : s ≤ R0)
    (g1 : S0 < s → ltS K (xs.getD (s - 1) 0) (xs.getD (md + m - s) 0)) (g2 : s < R0 → ltS K (xs.getD (md + m - 1 - s) 0) (xs.getD s 0)) : Cut K xs a m b s (md + m - s) md := by
  refine ⟨by omega, by omega, by omega, by omega, by omega, fun i j p1 p2 p3 p4 => ?_, fun i j p1 p2 p3 p4 => ?_⟩
  · have hlt := g1 (by omega)
    exact srt_le h1 p1 (show i ≤ s - 1 by omega) (by omega) (srt_ge h2 (show m ≤ md + m - s by omega) p3 p4 hlt)
  · have hlt := g2 (by omega)
    exact srt_le h2 p3 (show j ≤ md + m - 1 - s by omega) (by omega) (srt_ge h1 (show a ≤ s by omega) p1 p2 hlt)
theorem srt_same {a b : Nat} (h : Srt K ys a b) (hk : ∀ k, a ≤ k → k < b → xs.getD k 0 = ys.getD k 0) : Srt K xs a b := fun i j p1 p2 p3 => by rw [hk i p1 (by omega), hk j (by omega) p3]; exact h i j p1 p2 p3
theorem stb_same {a m b : Nat} (h : StB ys a m b) (hmb : m ≤ b) (hk : ∀ k, a ≤ k → k < b → xs.getD k 0 = ys.getD k 0) : StB xs a m b := fun i j p1 p2 p3 p4 => by rw [hk i p1 (by omega), hk j (by omega) p4]; exact h i j p1 p2 p3 p4
theorem join_srt {zs us : List Int} {a md b : Nat} (h1 : a ≤ md) (h2 : md ≤ b) (g1 : Seg ys zs a md) (g2 : Seg zs us md b) (s1 : Srt K zs a md) (s2 : Srt K us md b) (hlr : ∀ i j : Nat, a ≤ i → i < md → md ≤ j → j < b → ltS K (ys.getD i 0) (ys.getD j 0)) : Srt K us a b := by
  intro i j p1 p2 p3
  by_cases hj : j < md
  · rw [g2.2.2.1 i (.inl (by omega)), g2.2.2.1 j (.inl hj)]; exact s1 i j p1 p2 hj
  · by_cases hi : md ≤ i
    · exact s2 i j hi p2 p3
    · rw [g2.2.2.1 i (.inl (by omega))]
      obtain ⟨i', a1, a2, a3⟩ := g1.2.2.2 i p1 (by omega)
      obtain ⟨j', b1, b2, b3⟩ := g2.2.2.2 j (by omega) p3
      rw [a3, b3, g1.2.2.1 j' (.inr b1)]
      exact hlr i' j' a1 a2 b1 b2
end
end Go.Proofs.Ytpnfjfbfgaiolaa
