/- inode: what is taken out of bytes: the plain law. No condition beyond the bounds that each states. -/
import Derived.Test.YtoaplldahbbaiaaKE
import Derived.Test.YtoaplldahbbaiaaCrk
import Derived.Test.YtoaplldahbbaiaaGbk
namespace Go.Proofs.Ytoaplldahbbaiaa
open Go Go.RowKit
set_option linter.unusedVariables false

abbrev Rd := Int × List UInt8
def gS (n : Int) (s : Rd) : Rd := (cutE (numE1 s.1 n) s.2 n, cutR (numE1 s.1 n) s.2 n)
def gV (n : Int) (s : Rd) : Int := valB (cutB (numE1 s.1 n) s.2 n)
def gF (q : Rd × (Nat → Int)) (x : Fd) : Rd × (Nat → Int) := (gS x.b q.1, upd q.2 x.o (gV x.b q.1))
def gK (b : List UInt8) : Int := gV 1 (0, b)
def g0 (b : List UInt8) : Rd × (Nat → Int) := (gS 1 (0, b), upd (fun _ => 0) 0 (gK b))
def gSt (b : List UInt8) (k : Nat) : Rd × (Nat → Int) := ((recL (gK b)).take k).foldl gF (g0 b)
def gR (b : List UInt8) : Rd × (Nat → Int) := (recL (gK b)).foldl gF (g0 b)
def gTxS (s : Rd) : Rd := (cutE (tE s.1 s.2) (tR s.1 s.2) (tN s.1 s.2), cutR (tE s.1 s.2) (tR s.1 s.2) (tN s.1 s.2))
def gTx (s : Rd) : List UInt8 := cutB (tE s.1 s.2) (tR s.1 s.2) (tN s.1 s.2)
def gEnd (b : List UInt8) : Rd := if gK b = 3 then gTxS (gR b).1 else (gR b).1
def gT (b : List UInt8) : List UInt8 := if gK b = 3 then gTx (gR b).1 else []
def gFn (b : List UInt8) : Nat → Int := (gR b).2
def TkOk (b : List UInt8) : Prop := endE (gEnd b).1 (gEnd b).2 = 0 ∧ mayI (gFn b) (gT b)
instance (b : List UInt8) : Decidable (TkOk b) := by unfold TkOk; exact inferInstance
def tkF (b : List UInt8) : Nat → Int := if TkOk b then gFn b else fun _ => 0
def tkT (b : List UInt8) : List UInt8 := if TkOk b then gT b else []
def tkE (b : List UInt8) : Int := if TkOk b then 0 else 2

theorem g_good {n : Int} {s : Rd} (h1 : 1 ≤ n) (h4 : n ≤ 4) (h0 : s.1 = 0) (hl : n ≤ s.2.length) : gS n s = (0, s.2.drop n.toNat) ∧ gV n s = valB (s.2.take n.toNat) := by
  have e : cutE 0 s.2 n = 0 := by rw [cutE_good (by omega) (by omega)]
  unfold gS gV
  rw [numE1_good h1 h4, h0, e]
  obtain ⟨a, b⟩ := cutB_good e
  rw [a, b]; exact ⟨rfl, rfl⟩
theorem g_short {n : Int} {s : Rd} (h1 : 1 ≤ n) (h4 : n ≤ 4) (h0 : s.1 = 0) (hl : (s.2.length : Int) < n) : (gS n s).1 ≠ 0 := by
  unfold gS
  rw [numE1_good h1 h4, h0, cutE_short (by omega) hl, if_pos rfl]; exact (by decide : (2 : Int) ≠ 0)
theorem g_err {n : Int} {s : Rd} (h : s.1 ≠ 0) : (gS n s).1 ≠ 0 := by
  have : numE1 s.1 n = s.1 := by unfold numE1; rw [if_pos h]
  unfold gS
  rw [this, cutE_same h]; exact h
theorem gV_non (n : Int) (s : Rd) : 0 ≤ gV n s := Int.natCast_nonneg _

def encL (F : Nat → Int) (L : List Fd) : List UInt8 := L.flatMap (fun x => le (F x.o) x.b.toNat)
def sumL (L : List Fd) : Nat := (L.map (fun x => x.b.toNat)).sum
theorem encL_len (F : Nat → Int) : ∀ L : List Fd, (encL F L).length = sumL L
  | [] => rfl
  | x :: r => by have := encL_len F r; simp only [encL, sumL] at this ⊢; simp [le_length, this]
theorem encL_congr {F G : Nat → Int} {L : List Fd} (h : ∀ x ∈ L, F x.o = G x.o) : encL F L = encL G L := by
  induction L with
  | nil => rfl
  | cons x r ih =>
    have h1 := ih (fun y hy => h y (by simp [hy]))
    have h2 := h x (by simp)
    simp only [encL, List.flatMap_cons] at h1 ⊢
    rw [h2, h1]
theorem le_valT {ys : List UInt8} {n : Nat} (h : n ≤ ys.length) : le (valB (ys.take n)) n = ys.take n := by
  have := le_valB (ys.take n)
  rwa [List.length_take, Nat.min_eq_left h] at this

theorem gF_fold : ∀ (L : List Fd) (q : Rd × (Nat → Int)), (∀ x ∈ L, 1 ≤ x.b ∧ x.b ≤ 4) → (L.map (·.o)).Nodup →
    (∀ o, o ∉ L.map (·.o) → (L.foldl gF q).2 o = q.2 o) ∧ (q.1.1 ≠ 0 → (L.foldl gF q).1.1 ≠ 0) ∧
    ((L.foldl gF q).1.1 = 0 → q.1.2 = encL (L.foldl gF q).2 L ++ (L.foldl gF q).1.2) ∧ (q.1.1 = 0 → (L.foldl gF q).1.1 ≠ 0 → q.1.2.length < sumL L)
  | [], q, _, _ => ⟨fun _ _ => rfl, id, fun _ => rfl, fun h0 h => absurd h0 h⟩
  | x :: r, q, hb, hn => by
    rw [List.map_cons, List.nodup_cons] at hn
    obtain ⟨i1, i2, i3, i4⟩ := gF_fold r (gF q x) (fun y hy => hb y (by simp [hy])) hn.2
    obtain ⟨b1, b4⟩ := hb x (by simp)
    have eo : ((x :: r).foldl gF q) = r.foldl gF (gF q x) := rfl
    rw [eo]
    obtain ⟨R, hR⟩ : ∃ R, R = r.foldl gF (gF q x) := ⟨_, rfl⟩
    rw [← hR] at i1 i2 i3 i4 ⊢
    have hx : R.2 x.o = gV x.b q.1 := by rw [i1 x.o hn.1]; show upd _ _ _ _ = _; simp [upd]
    have he : encL R.2 (x :: r) = le (R.2 x.o) x.b.toNat ++ encL R.2 r := by simp [encL]
    have hs : sumL (x :: r) = x.b.toNat + sumL r := by simp [sumL]
    refine ⟨fun o ho => ?_, fun h => i2 (g_err h), fun h => ?_, fun h0 h => ?_⟩
    · rw [List.map_cons, List.mem_cons, not_or] at ho
      rw [i1 o ho.2]
      show upd _ _ _ _ = _
      simp [upd, ho.1]
    · have hq0 : q.1.1 = 0 := Classical.byContradiction fun h' => i2 (g_err h') h
      have hl : x.b ≤ q.1.2.length := Classical.byContradiction fun h' => i2 (g_short b1 b4 hq0 (by omega)) h
      obtain ⟨g1, g2⟩ := g_good b1 b4 hq0 hl
      have h3 := i3 h
      have h4 : (gF q x).1.2 = q.1.2.drop x.b.toNat := by show (gS x.b q.1).2 = _; rw [g1]
      rw [h4] at h3
      rw [he, hx, g2, le_valT (by omega), List.append_assoc, ← h3, List.take_append_drop]
    · rw [hs]
      by_cases hl : x.b ≤ q.1.2.length
      · obtain ⟨g1, g2⟩ := g_good b1 b4 h0 hl
        have h5 : (gF q x).1 = (0, q.1.2.drop x.b.toNat) := g1
        have := i4 (by rw [h5]) h
        rw [h5] at this
        simp only [List.length_drop] at this
        omega
      · omega

theorem recL_nodup (k : Int) : ((recL k).map (·.o)).Nodup := by
  unfold recL fldL
  split
  · decide
  · split <;> decide
theorem recL_b (k : Int) : ∀ x ∈ recL k, 1 ≤ x.b ∧ x.b ≤ 4 := fun x hx => by have := recL_off hx; exact ⟨this.2.1, this.2.2.1⟩
theorem recL_no0 (k : Int) : 0 ∉ (recL k).map (·.o) := by
  unfold recL fldL
  split
  · decide
  · split <;> decide
theorem gFn_0 (b : List UInt8) : gFn b 0 = gK b := by
  have := (gF_fold (recL (gK b)) (g0 b) (recL_b _) (recL_nodup _)).1 0 (recL_no0 _)
  unfold gFn gR
  rw [this]; simp [g0, upd]

theorem rSt_cat {F : Nat → Int} {T : List UInt8} (h : mayI F T) : ∀ k, k ≤ (recL (F 0)).length → (rSt F k).2 = le (F 0) 1 ++ encL F ((recL (F 0)).take k)
  | 0, _ => by
    have hk := may_kind h
    obtain ⟨a, b⟩ := putNum_good (s := (0, [])) (z := F 0) (n := 1) rfl (fit_good (m := 3) (by decide) (by decide) (by omega) (by omega) (by decide))
    show (putNum 1 (0, []) (F 0)).2 = _
    rw [b]; simp [encL]
  | k + 1, hk => by
    have h1 := (rSt_good h k (by omega)).1
    have h2 := rSt_cat h k (by omega)
    have hm := recL_at (k := F 0) (i := k) (by omega)
    obtain ⟨_, b1, b4, m0, mb⟩ := recL_off hm
    have ho := rec_may h _ hm
    obtain ⟨a, b⟩ := putNum_good (s := rSt F k) (z := F ((recL (F 0)).getD k fd0).o) (n := ((recL (F 0)).getD k fd0).b) h1 (fit_good b1 b4 ho.1 ho.2 mb)
    rw [rSt_succ F k (by omega)]
    show (putNum _ _ _).2 = _
    rw [b, fd_off (by omega), h2]
    simp [encL]
theorem rEnd_cat {F : Nat → Int} {T : List UInt8} (h : mayI F T) : (rEnd F T).2 = le (F 0) 1 ++ encL F (recL (F 0)) ++ (if F 0 = 3 then UInt8.ofNat T.length :: T else []) := by
  have h1 := (rSt_good h _ (Nat.le_refl _)).1
  have h2 := rSt_cat h _ (Nat.le_refl _)
  rw [List.take_length] at h2
  unfold rEnd
  by_cases h3 : F 0 = 3
  · rw [if_pos h3, if_pos h3, ← h2]
    have h9 := h.1
    unfold mayA at h9
    show txtX _ _ _ = _
    unfold txtX
    rw [if_neg (by omega)]
  · rw [if_neg h3, if_neg h3, List.append_nil, h2]

theorem g_first {b : List UInt8} (h : gK b ≠ 0) : ∃ c r, b = c :: r ∧ gK b = c.toNat ∧ g0 b = ((0, r), upd (fun _ => 0) 0 (gK b)) := by
  cases b with
  | nil => exact absurd rfl h
  | cons c r =>
    obtain ⟨g1, g2⟩ := g_good (n := 1) (s := (0, c :: r)) (by decide) (by decide) rfl (by simp; omega)
    refine ⟨c, r, rfl, ?_, ?_⟩
    · unfold gK; rw [g2]; simp [valB]
    · unfold g0; rw [g1]; rfl
theorem endE_zero {E : Int} {ys : List UInt8} : endE E ys = 0 ↔ E = 0 ∧ ys = [] := by
  unfold endE
  by_cases hE : E = 0
  · by_cases hy : 0 < ys.length
    · have : ys ≠ [] := fun e => by rw [e] at hy; cases hy
      simp [hE, hy, this]
    · have : ys = [] := List.eq_nil_of_length_eq_zero (by omega)
      simp [hE, this]
  · simp [hE]

theorem take_iff {b : List UInt8} (h : mayI (gFn b) (gT b)) : endE (gEnd b).1 (gEnd b).2 = 0 ↔ (rEnd (gFn b) (gT b)).2 = b := by
  have hk := may_kind h
  rw [gFn_0] at hk
  obtain ⟨c, r, hb, hc, h0⟩ := g_first (b := b) (by omega)
  obtain ⟨_, i2, i3, i4⟩ := gF_fold (recL (gK b)) (g0 b) (recL_b _) (recL_nodup _)
  rw [← gR, h0] at i2 i3 i4
  simp only [ne_eq] at i3 i4
  clear i2
  have hcat := rEnd_cat h
  rw [gFn_0, hc, le_one, UInt8.ofNat_toNat, ← hc] at hcat
  have hmay := h.1
  unfold mayA at hmay
  rw [gFn_0] at hmay
  rw [hcat, endE_zero]
  have hgF : gFn b = (gR b).2 := rfl
  rw [hgF]
  obtain ⟨s, hs⟩ : ∃ s, s = (gR b).1 := ⟨_, rfl⟩
  obtain ⟨E, hE⟩ : ∃ E, E = encL (gR b).2 (recL (gK b)) := ⟨_, rfl⟩
  have hEl : E.length = sumL (recL (gK b)) := by rw [hE, encL_len]
  rw [← hs, ← hE] at i3
  rw [← hs, ← hEl] at i4
  rw [← hE]
  by_cases h3 : gK b = 3
  · have hT : 0 < (gT b).length := by omega
    have eT : gT b = gTx s := by unfold gT; rw [if_pos h3, hs]
    have eE : gEnd b = gTxS s := by unfold gEnd; rw [if_pos h3, hs]
    rw [if_pos h3]
    have hn : numE1 s.1 1 = s.1 := numE1_good (by decide) (by decide) _
    have hz : cutE (tE s.1 s.2) (tR s.1 s.2) (tN s.1 s.2) = 0 := Classical.byContradiction fun hne => by
      rw [eT] at hT; unfold gTx at hT; rw [(cutB_bad hne).1] at hT; cases hT
    obtain ⟨z1, z2, z3⟩ := cutE_zero hz
    have z4 : cutE s.1 s.2 1 = 0 := by have := z1; unfold tE at this; rwa [hn] at this
    obtain ⟨y1, y2, y3⟩ := cutE_zero z4
    have e3 := i3 y1
    obtain ⟨d, t, hd⟩ : ∃ d t, s.2 = d :: t := by
      cases hs2 : s.2 with
      | nil => rw [hs2] at y3; simp at y3
      | cons d t => exact ⟨d, t, rfl⟩
    obtain ⟨c1, c2⟩ := cutB_good z4
    have etR : tR s.1 s.2 = t := by unfold tR; rw [hn, c2, hd]; rfl
    have etN : tN s.1 s.2 = d.toNat := by unfold tN; rw [hn, c1, hd]; simp [valB]
    obtain ⟨c3, c4⟩ := cutB_good hz
    rw [etR, etN] at c3 c4
    rw [etN, etR] at z3
    have eT2 : gT b = t.take d.toNat := by rw [eT]; unfold gTx; rw [etR, etN, c3]; rfl
    have eE2 : gEnd b = (0, t.drop d.toNat) := by rw [eE]; unfold gTxS; rw [hz, etR, etN, c4]; rfl
    have el : (gT b).length = d.toNat := by rw [eT2, List.length_take]; omega
    rw [eE2, el, UInt8.ofNat_toNat, eT2, hb, e3, hd]
    simp only [true_and]
    have el2 : (List.take d.toNat t).length = d.toNat := by rw [← eT2]; exact el
    constructor
    · intro h
      have : t.take d.toNat = t := by have := List.take_append_drop d.toNat t; rw [h, List.append_nil] at this; exact this
      rw [this]; simp
    · intro h
      have h5 : t.take d.toNat = t := by simpa using h
      rw [← h5]; simp
  · rw [if_neg h3, List.append_nil]
    have eE : gEnd b = s := by unfold gEnd; rw [if_neg h3, hs]
    rw [eE]
    by_cases hs0 : s.1 = 0
    · have e3 := i3 hs0
      have : ([c] ++ E = b) ↔ (E = r) := by rw [hb]; simp
      rw [this]
      constructor
      · rintro ⟨_, h2⟩; rw [e3, h2, List.append_nil]
      · intro h2; refine ⟨hs0, ?_⟩; rw [h2] at e3; simpa using e3
    · have h4 := i4 trivial hs0
      constructor
      · rintro ⟨h5, _⟩; exact absurd h5 hs0
      · intro h5
        have := congrArg List.length h5
        rw [List.length_append, hb] at this
        simp at this
        omega

/-! put, then taken -/
theorem pow_le {b : Int} (h : 0 ≤ b) : (2 : Int) ^ (8 * b).toNat = 256 ^ b.toNat := by
  rw [show (8 * b).toNat = 8 * b.toNat by omega, Int.pow_mul]; rfl
theorem gF_fwd (F : Nat → Int) : ∀ (L : List Fd) (G : Nat → Int) (rest : List UInt8), (∀ x ∈ L, 1 ≤ x.b ∧ x.b ≤ 4 ∧ 0 ≤ F x.o ∧ F x.o < 256 ^ x.b.toNat) →
    (L.foldl gF ((0, encL F L ++ rest), G)) = ((0, rest), L.foldl (fun g x => upd g x.o (F x.o)) G)
  | [], G, rest, _ => rfl
  | x :: r, G, rest, h => by
    obtain ⟨b1, b4, f0, f1⟩ := h x (by simp)
    have e : encL F (x :: r) = le (F x.o) x.b.toNat ++ encL F r := by simp [encL]
    rw [e, List.append_assoc, List.foldl_cons]
    obtain ⟨g1, g2⟩ := g_good (n := x.b) (s := (0, le (F x.o) x.b.toNat ++ (encL F r ++ rest))) b1 b4 rfl (by simp [le_length]; omega)
    have e2 : gF ((0, le (F x.o) x.b.toNat ++ (encL F r ++ rest)), G) x = ((0, encL F r ++ rest), upd G x.o (F x.o)) := by
      unfold gF
      rw [g1, g2]
      simp only
      rw [List.drop_left' (le_length _ _), List.take_left' (le_length _ _), valB_le _ _ f0 f1]
    rw [e2, gF_fwd F r _ rest (fun y hy => h y (by simp [hy]))]
    rfl
theorem upd_fold (F : Nat → Int) : ∀ (L M : List Fd), L.foldl (fun g x => upd g x.o (F x.o)) (upd (knownG F M) 0 (F 0)) = upd (knownG F (M ++ L)) 0 (F 0)
  | [], M => by simp
  | x :: r, M => by
    rw [List.foldl_cons]
    have e : upd (upd (knownG F M) 0 (F 0)) x.o (F x.o) = upd (knownG F (M ++ [x])) 0 (F 0) := by
      rw [← knownG_snoc]
      funext q
      unfold upd
      by_cases h1 : q = x.o
      · by_cases h2 : q = 0
        · rw [if_pos h1, if_pos h2, ← h1, h2]
        · rw [if_pos h1, if_neg h2, if_pos h1]
      · rw [if_neg h1]
        by_cases h2 : q = 0
        · rw [if_pos h2, if_pos h2]
        · rw [if_neg h2, if_neg h2, if_neg h1]
    rw [e, upd_fold F r (M ++ [x]), List.append_assoc]; rfl

theorem take_put {F : Nat → Int} {T : List UInt8} (h : mayI F T) : TkOk (rEnd F T).2 ∧ sameI (gFn (rEnd F T).2) (gT (rEnd F T).2) F T := by
  have hk := may_kind h
  have h9 := h.1
  unfold mayA at h9
  have hcat := rEnd_cat h
  obtain ⟨b, hb⟩ : ∃ b, b = (rEnd F T).2 := ⟨_, rfl⟩
  obtain ⟨rest, hrest⟩ : ∃ r, r = (if F 0 = 3 then UInt8.ofNat T.length :: T else []) := ⟨_, rfl⟩
  rw [← hb, ← hrest] at hcat
  rw [← hb]
  have e0 : le (F 0) 1 = [UInt8.ofNat (F 0).toNat] := by have := le_one (F 0).toNat; rwa [show (((F 0).toNat : Nat) : Int) = F 0 by omega] at this
  have hb2 : b = UInt8.ofNat (F 0).toNat :: (encL F (recL (F 0)) ++ rest) := by rw [hcat, e0]; simp
  have hlt : (UInt8.ofNat (F 0).toNat).toNat = (F 0).toNat := by rw [UInt8.toNat_ofNat']; omega
  have hK : gK b = F 0 := by
    unfold gK
    rw [(g_good (n := 1) (s := (0, b)) (by decide) (by decide) rfl (by rw [hb2]; simp; omega)).2, hb2]
    simp [valB]; omega
  obtain ⟨c, r, hb3, hc, h0⟩ := g_first (b := b) (by omega)
  have er : r = encL F (recL (F 0)) ++ rest := by rw [hb2] at hb3; simp at hb3; exact hb3.2.symm
  have hR : gR b = ((0, rest), upd (knownG F (recL (F 0))) 0 (F 0)) := by
    unfold gR
    rw [h0, er, hK, gF_fwd F _ _ _ (fun x hx => by
      obtain ⟨_, b1, b4, m0, mb⟩ := recL_off hx
      have := rec_may h x hx
      unfold okF at this
      rw [pow_le (by omega)] at mb
      exact ⟨b1, b4, this.1, by omega⟩)]
    have := upd_fold F (recL (F 0)) []
    rw [knownG_nil, List.nil_append] at this
    rw [this]
  have hsame : ∀ U, U = T → sameI (gFn b) U F T := fun U hU => by
    unfold gFn
    rw [hR]
    refine (known_same F U T).2 ⟨fun _ => by omega, fun _ _ => by omega, hU⟩
  have hfin : gEnd b = (0, []) ∧ gT b = T := by
    by_cases h3 : F 0 = 3
    · rw [if_pos h3] at hrest
      have hl : (UInt8.ofNat T.length).toNat = T.length := by rw [UInt8.toNat_ofNat']; omega
      have z4 : cutE 0 rest 1 = 0 := by rw [cutE_good (by decide) (by rw [hrest]; simp; omega)]
      obtain ⟨c1, c2⟩ := cutB_good z4
      have hn : numE1 0 1 = 0 := numE1_good (by decide) (by decide) _
      have etE : tE 0 rest = 0 := by unfold tE; rw [hn, z4]
      have etR : tR 0 rest = T := by unfold tR; rw [hn, c2, hrest]; rfl
      have etN : tN 0 rest = T.length := by unfold tN; rw [hn, c1, hrest]; simp [valB]; omega
      have z5 : cutE 0 T T.length = 0 := by rw [cutE_good (by omega) (by omega)]
      obtain ⟨c3, c4⟩ := cutB_good z5
      unfold gEnd gT gTxS gTx
      rw [hK, if_pos h3, if_pos h3, hR]
      simp only
      rw [etE, etR, etN, z5, c3, c4]
      simp
    · rw [if_neg h3] at hrest
      have : T = [] := List.eq_nil_of_length_eq_zero (by omega)
      unfold gEnd gT
      rw [hK, if_neg h3, if_neg h3, hR, hrest]
      exact ⟨rfl, this.symm⟩
  refine ⟨⟨by rw [hfin.1]; rfl, ?_⟩, by rw [hfin.2]; exact hsame T rfl⟩
  have hs := (hsame T rfl).1
  rw [hfin.2]
  have hc := h
  unfold mayI mayA at hc ⊢
  rw [hs 0 (by decide), hs 1 (by decide), hs 2 (by decide), hs 3 (by decide), hs 4 (by decide), hs 5 (by decide), hs 6 (by decide), hs 7 (by decide), hs 8 (by decide), hs 9 (by decide)]
  exact hc

theorem rEnd_at0 {F : Nat → Int} {T : List UInt8} (h : mayI F T) : ((rEnd F T).2.getD 0 0).toNat = (F 0).toNat := by
  have hk := may_kind h
  have e0 : le (F 0) 1 = [UInt8.ofNat (F 0).toNat] := by have := le_one (F 0).toNat; rwa [show (((F 0).toNat : Nat) : Int) = F 0 by omega] at this
  rw [rEnd_cat h, e0]
  simp
  omega
theorem rEnd_at13 {F : Nat → Int} {T : List UInt8} (h : mayI F T) (h3 : F 0 = 3) : ((rEnd F T).2.getD 13 0).toNat = T.length := by
  have h9 := h.1
  unfold mayA at h9
  rw [rEnd_cat h, if_pos h3]
  have hl : (le (F 0) 1 ++ encL F (recL (F 0))).length = 13 := by
    rw [List.length_append, le_length, encL_len]
    unfold recL fldL
    rw [if_neg (by omega), if_neg (by omega)]; rfl
  rw [List.getD, List.getElem?_append_right (by omega), hl]
  simp
  omega
/-- what has another length, but the same first bytes, is no record -/
theorem take_other {F : Nat → Int} {T : List UInt8} (h : mayI F T) {b : List UInt8} (hl : b.length ≠ (rEnd F T).2.length) (h0 : b.getD 0 0 = (rEnd F T).2.getD 0 0) (h13 : F 0 = 3 → b.getD 13 0 = (rEnd F T).2.getD 13 0) : ¬ TkOk b := by
  rintro ⟨hE, hm⟩
  have e := (take_iff hm).1 hE
  have k1 := may_kind h
  have k2 := may_kind hm
  have a1 := rEnd_at0 h
  have a2 := rEnd_at0 hm
  rw [e, h0, a1] at a2
  have l1 := rSt_len h
  have l2 := rSt_len hm
  rw [e] at l2
  have hk : F 0 = gFn b 0 := by omega
  rw [← hk] at l2
  by_cases h3 : F 0 = 3
  · have b1 := rEnd_at13 h h3
    have b2 := rEnd_at13 hm (by omega)
    rw [e, h13 h3, b1] at b2
    rw [if_neg (by omega), if_neg (by omega)] at l1 l2
    omega
  · by_cases h2 : F 0 = 2
    · rw [if_pos h2] at l1 l2; omega
    · rw [if_neg h2, if_pos (by omega)] at l1 l2; omega
end Go.Proofs.Ytoaplldahbbaiaa
/- inode: Take, the program's. No condition beyond the bounds that each states. -/
namespace Go.Proofs.Ytoaplldahbbaiaa
open Go Go.RowKit
set_option linter.unusedVariables false

def TkP (W : World) (b : List UInt8) : Value → World → Prop := fun v w' => v = .tuple #[.agg (inoC (tkF b) (tkT b)).toArray, .int .i64 (tkE b)] ∧ Foot nob W w'
theorem tk_yes {b : List UInt8} (h : TkOk b) : tkF b = gFn b ∧ tkT b = gT b ∧ tkE b = 0 := by unfold tkF tkT tkE; rw [if_pos h, if_pos h, if_pos h]; exact ⟨rfl, rfl, rfl⟩
theorem tk_no {b : List UInt8} (h : ¬ TkOk b) : tkF b = (fun _ => 0) ∧ tkT b = [] ∧ tkE b = 2 := by unfold tkF tkT tkE; rw [if_neg h, if_neg h, if_neg h]; exact ⟨rfl, rfl, rfl⟩
theorem gF_len (q : Rd × (Nat → Int)) (x : Fd) : (gF q x).1.2.length ≤ q.1.2.length := cutR_len _ _ _
theorem gSt_succ (b : List UInt8) (k : Nat) (h : k < (recL (gK b)).length) : gSt b (k + 1) = gF (gSt b k) ((recL (gK b)).getD k fd0) := by
  unfold gSt
  rw [fd_off h, List.foldl_append]; rfl
theorem gSt_len (b : List UInt8) : ∀ k, k ≤ (recL (gK b)).length → (gSt b k).1.2.length ≤ b.length
  | 0, _ => cutR_len _ _ _
  | k + 1, h => by rw [gSt_succ b k (by omega)]; exact Nat.le_trans (gF_len _ _) (gSt_len b k (by omega))
theorem gSt_end (b : List UInt8) : gSt b (recL (gK b)).length = gR b := by unfold gSt gR; rw [List.take_length]
theorem gSt_0 (b : List UInt8) : ∀ k, k ≤ (recL (gK b)).length → (gSt b k).2 0 = gK b
  | 0, _ => by show upd (fun _ => 0) 0 (gK b) 0 = _; simp [upd]
  | k + 1, h => by
    have hm := recL_at (k := gK b) (i := k) (by omega)
    have := (recL_off hm).1.2.2.1
    rw [gSt_succ b k (by omega)]
    show upd (gSt b k).2 _ _ 0 = _
    unfold upd
    rw [if_neg (by omega)]; exact gSt_0 b k (by omega)

theorem cutB_le (E : Int) (ys : List UInt8) (n : Int) : (cutB E ys n).length ≤ ys.length := by unfold cutB; split <;> simp; omega
theorem gT_len (b : List UInt8) : (gT b).length ≤ b.length := by
  unfold gT
  split
  · have h1 := gSt_len b _ (Nat.le_refl _)
    rw [gSt_end] at h1
    have h2 := tR_len (gR b).1.1 (gR b).1.2
    have h3 := cutB_le (tE (gR b).1.1 (gR b).1.2) (tR (gR b).1.1 (gR b).1.2) (tN (gR b).1.1 (gR b).1.2)
    unfold gTx; omega
  · simp

set_option maxHeartbeats 2000000 in
theorem take_ok (b : List UInt8) (ao0 : Option Addr) (c0 : Nat) (W : World) (hv : Vw b8 W.heap ao0 c0 b) (hb : b.length ≤ 1099511627776) :
    Calls Try.prog 25 [.slice ao0 b.length c0].toArray W (Ret (TkP W b)) := by
  refine calls_of_sc 48 [(0, _)] Try.func25 rfl rfl rfl (enter_slots ⟨rfl, trivial⟩) ?_
  refine Sc.seq ?_
  refine Sc.region ?_
  refine Sl.allocC zc33 rfl ?_
  intro w1 hg1 hs1 hf1
  have hg1 : w1.heap[W.heap.size]? = some (.cells (inoC (fun _ => 0) []).toArray 33 (0, 0)) := hg1
  refine Sl.calm (Cm.assign rfl) rfl ?_
  refine Sl.nil ?_
  refine At.go ?_
  refine Sc.seq ?_
  refine Sc.region ?_
  refine Sl.calm (Cm.move rfl) rfl ?_
  refine Sl.call fn54 rfl (rdnew_ok ao0 c0 b w1 (hv.grow hf1) (by omega)) rfl ?_
  rintro _ w2 ⟨p, rfl, hp1, hP2, hf2⟩
  have hlp := hP2.lt
  refine Sl.calm (Cm.assign rfl) rfl ?_
  refine Sl.nil ?_
  refine At.weak [(0, _), (2, _), (3, _), (4, _)] ⟨rfl, rfl, rfl, rfl, trivial⟩ ?_
  refine At.go ?_
  refine Sc.seq ?_
  refine Sc.region ?_
  refine Sl.calm (Cm.move rfl) rfl ?_
  refine Sl.call fn55 rfl (rdnum_ok p 0 b 1 w2 hP2 hb) rfl ?_
  rintro _ w3 ⟨rfl, hP3, hf3⟩
  have hP3 : RdL _ w3.heap p (g0 b).1.1 (g0 b).1.2 := hP3
  have hg3 := hf3.obj (hf2.obj hg1 id) (by omega)
  refine Sl.calm (Cm.build (cs := (inoC (g0 b).2 []).toArray) plc33 zc33 rfl (by kernel_rfl)) rfl ?_
  refine Sl.allocC zc33 rfl ?_
  intro w4 hg4 hs4 hf4
  refine Sl.storeAll (vs := inoC (g0 b).2 []) agg33 rfl rfl (by intro v hv; exact inoC_one _ _ v hv) hg4 rfl ?_
  intro w5 hg5 hs5 hf5
  have hz2 := hf2.size
  have hz3 := hf3.size
  have hF5 : Foot nob w3 w5 := hf4.trans_to hf5 (fun k hk => .inr (by have : k = w3.heap.size := hk; omega))
  have hP5 := hP3.grow hF5
  have hg5r := hF5.obj hg3 id
  have hz5 := hF5.size
  have hFW5 : Foot nob W w5 := (((hf1.trans hf2).any.trans hf3).fresh (fun k hk => by have : k = p := hk; omega)).trans hF5
  refine Sl.nil ?_
  refine At.weak [(0, _), (2, _), (3, _), (4, _), (5, _)] ⟨rfl, rfl, rfl, rfl, rfl, trivial⟩ ?_
  refine At.go ?_
  refine Sc.seq ?_
  refine Sc.seq ?_
  refine Sc.draw 7 (fun H => H[w3.heap.size]? = some (.cells (inoC (g0 b).2 []).toArray 33 (0, 0))) [0, 3, 4] [1, 2, 6, 0, 3, 4, 5] mixed (by kernel_rfl) (hg5) ?_
  refine Sx.calm rfl rfl (Cm.field fld33_0 rfl) rfl ?_
  refine Sx.calm rfl rfl (Cm.load sca3 rfl (fun H hH => cellF hH rfl)) rfl ?_
  refine Sx.calm rfl rfl (Cm.move rfl) rfl ?_
  refine Sx.eff rfl rfl (Sl.call fn52 rfl (common_ok _) rfl ?_)
  rintro _ w6 ⟨ao2, c2, rfl, ho2, hfr2, hf6⟩
  refine Sx.on (by exact hf6.obj hg5 id) ?_
  refine Sx.eff rfl rfl (Sl.call fn53 rfl (fields_ok (gK b) _) rfl ?_)
  rintro _ w7 ⟨ao3, c3, rfl, ho3, hfr3, hf7⟩
  refine Sx.on (by exact hf7.obj (hf6.obj hg5 id) id) ?_
  refine Sx.eff rfl rfl (Sl.appendM fdV_cells rfl sl94 rfl rfl (ho2.grow hf7) (ho3.vw fdV_cells) (by have := recL_len (gK b); unfold recL at this; rw [List.length_append] at this; omega) (by have := recL_len (gK b); unfold recL at this; rw [List.length_append] at this; unfold maxLen; omega) rfl ?_)
  intro ao4 c4 w8 ho4 hf8 hr4 hn4
  have hfr2 : Fr w5.heap.size ao2 := hfr2
  have hf6 := hf6.undraw
  have hz6 := hf6.size
  have hz7 := hf7.size
  have hF8 : Foot nob w5 w8 := (hf6.trans hf7).trans_to hf8 hfr2.step
  have hg8 := hF8.obj hg5 id
  have hz8 := hF8.size
  have hLlen := recL_len (gK b)
  refine Sx.on (by exact hg8) ?_
  refine Sx.calm rfl rfl (Cm.len sl94 rfl) rfl ?_
  refine Sx.nil ?_
  refine At.weak [(0, _), (2, _), (3, _), (4, _), (5, _), (17, _), (18, _), (19, _)] ⟨rfl, rfl, rfl, rfl, rfl, rfl, rfl, rfl, trivial⟩ ?_
  refine At.go ?_
  refine Sc.block ?_
  have hne4 : ∀ a, ao4 = some a → w5.heap.size ≤ a.block ∧ a.block < w8.heap.size := fun a ha => ⟨by rcases hr4 a ha with h | h; exact hfr2 a h; omega, ho4.lt a ha⟩
  refine Sc.loop (β := Nat) (fun k => [(2, .pointer (some ⟨W.heap.size, 0, none⟩)), (4, .pointer (some ⟨p, 0, none⟩)), (5, .pointer (some ⟨w3.heap.size, 0, none⟩)), (17, .slice ao4 (recL (gK b)).length c4), (18, .int .i64 (recL (gK b)).length), (19, .int .i64 k)]) (fun k w => k ≤ (recL (gK b)).length ∧ RdL (fun k => w1.heap.size ≤ k ∧ k < w2.heap.size) w.heap p (gSt b k).1.1 (gSt b k).1.2 ∧ w.heap[w3.heap.size]? = some (.cells (inoC (gSt b k).2 []).toArray 33 (0, 0)) ∧ VwM 3 fdV w.heap ao4 c4 (recL (gK b)) ∧ w.heap[W.heap.size]? = some (.cells (inoC (fun _ => 0) []).toArray 33 (0, 0)) ∧ w8.heap.size ≤ w.heap.size ∧ Foot nob W w) (fun k => (recL (gK b)).length - k) 0 ⟨rfl, rfl, rfl, rfl, rfl, rfl, trivial⟩ ⟨Nat.zero_le _, hP5.grow hF8, hg8, ho4.vw fdV_cells, hF8.obj hg5r id, Nat.le_refl _, hFW5.trans hF8⟩ ?_
  rintro k w9 ⟨hk, hP9, hq, hL, hr9, hlt9, hF9⟩
  refine Sc.seq ?_
  refine Sc.region ?_
  refine Sl.fork (Cm.lss rfl rfl) rfl (fun h20 => ?_) (fun h20 => ?_)
  ·
    refine Sl.nil ?_
    refine At.go ?_
    refine Sc.seq ?_
    refine Sc.cond_t rfl ?_
    refine Sc.skip ?_
    refine At.go ?_
    refine Sc.seq ?_
    refine Sc.block ?_
    refine Sc.seq ?_
    refine Sc.region ?_
    have hkL : k < (recL (gK b)).length := by omega
    have hrow := fd_row hL (k := k) rfl hkL
    have hmem := recL_at hkL
    obtain ⟨⟨hfn, ho10, ho0, hcall⟩, hb1, hb4, hm0, hmb⟩ := recL_off hmem
    obtain ⟨x, hx⟩ : ∃ x, x = (recL (gK b)).getD k fd0 := ⟨_, rfl⟩
    rw [← hx] at hrow hmem hfn ho10 ho0 hcall hb1 hb4 hm0
    refine Sl.calm (Cm.indexAddr sl94 rfl rfl hL.non (by omega)) rfl ?_
    refine Sl.calm (Cm.ldM (cs := fdV x) agg99 rfl hrow) rfl ?_
    refine Sl.allocC zc99 rfl ?_
    intro w10 hg10 hs10 hf10
    refine Sl.storeAll (vs := fdV x) agg99 rfl rfl (by simp [fdV, Value.oneCell']) hg10 rfl ?_
    intro w11 hg11 hs11 hf11
    have hF11 : Foot nob w9 w11 := hf10.trans_to hf11 (fun k hk => .inr (by have : k = w9.heap.size := hk; omega))
    have hq11 := hF11.obj hq id
    have hP11 := hP9.grow hF11
    have hz11 := hF11.size
    refine Sl.nil ?_
    refine At.weak [(2, _), (4, _), (5, _), (7, _), (17, _), (18, _), (19, _), (20, _)] ⟨rfl, rfl, rfl, rfl, rfl, rfl, rfl, rfl, trivial⟩ ?_
    refine At.go ?_
    refine Sc.draw 8 (fun H => H[w3.heap.size]? = some (.cells (inoC (gSt b k).2 []).toArray 33 (0, 0)) ∧ H[w9.heap.size]? = some (.cells (fdV x).toArray 99 (0, 0))) [2, 6, 8] [0, 1, 3, 4, 5, 2, 6, 7, 8] mixed (by kernel_rfl) (⟨hq11, hg11⟩) ?_
    refine Sx.calm rfl rfl (Cm.field fld99_0 rfl) rfl ?_
    refine Sx.calm rfl rfl (Cm.load sca97 rfl (fun H hH => cellF hH.2 rfl)) rfl ?_
    refine Sx.calm rfl rfl (Cm.move rfl) rfl ?_
    refine Sx.calm rfl rfl (Cm.field fld99_1 rfl) rfl ?_
    refine Sx.calm rfl rfl (Cm.load sca3 rfl (fun H hH => cellF hH.2 rfl)) rfl ?_
    refine Sx.eff rfl rfl (Sl.callV hfn rfl rfl (hcall w3.heap.size _) rfl ?_)
    rintro _ w12 ⟨rfl, hw12⟩
    subst w12
    refine Sx.on (by exact ⟨hq11, hg11⟩) ?_
    refine Sx.eff rfl rfl (Sl.call fn55 rfl (rdnum_ok p _ _ x.b _ (hP11.grow (Foot.refl _ _).undraw) (Nat.le_trans (gSt_len b k hk) hb)) rfl ?_)
    rintro _ w13 ⟨rfl, hP13, hf13⟩
    have hf13u := hf13.undraw
    have hq13 := hf13u.obj hq11 (by omega)
    refine Sx.on (by exact ⟨hf13.undraw.obj hq11 (by omega), hf13.undraw.obj hg11 (by omega)⟩) ?_
    refine Sx.calm rfl rfl (Cm.nilCheck rfl) rfl ?_
    refine Sx.eff rfl rfl (Sl.store sca3 rfl rfl rfl hq13 (by simp [inoC]; omega) ?_)
    intro w14 hg14 hs14 hf14
    refine Sx.last rfl ?_
    rw [inoC_set _ _ ho10] at hg14
    refine Sx.nil ?_
    refine At.block_normal ?_
    refine At.weak [(2, _), (4, _), (5, _), (7, _), (17, _), (18, _), (19, _), (20, _)] ⟨rfl, rfl, rfl, rfl, rfl, rfl, rfl, rfl, trivial⟩ ?_
    refine At.go ?_
    refine Sc.region ?_
    refine Sl.calm (Cm.add64 rfl rfl (by omega)) rfl ?_
    refine Sl.calm (Cm.move rfl) rfl ?_
    refine Sl.nil ?_
    refine At.again (k + 1) ⟨rfl, rfl, rfl, rfl, rfl, rfl, trivial⟩ ?_ (by show (recL (gK b)).length - (k + 1) < (recL (gK b)).length - k; omega)
    have hz13 := hf13u.size
    have hS := gSt_succ b k hkL
    rw [← hx] at hS
    refine ⟨by omega, ?_, ?_, ((hL.grow hF11).keep hf13u (fun a ha h => by have := hne4 a ha; have h2 : a.block = p := h; omega)).keep hf14 (fun a ha h => by have := hne4 a ha; have h2 : a.block = w3.heap.size := h; omega), hf14.obj (hf13u.obj (hF11.obj hr9 id) (by omega)) (by omega), by omega, ((hF9.trans hF11).trans_to hf13u (fun k hk => .inr (by have : k = p := hk; omega))).trans_to hf14 (fun k hk => .inr (by have : k = w3.heap.size := hk; omega))⟩
    · rw [hS]; exact hP13.keep hf14 (fun k hk h => by omega)
    · rw [hS]; exact hg14
  ·
    refine Sl.nil ?_
    refine At.go ?_
    refine Sc.seq ?_
    refine Sc.cond_f rfl ?_
    refine Sc.exit ?_
    refine At.then_exit ?_
    refine At.then_exit ?_
    refine At.block_hit ?_
    refine At.go ?_
    refine Sc.cut (β := Unit) (fun _u => [(2, .pointer (some ⟨W.heap.size, 0, none⟩)), (4, .pointer (some ⟨p, 0, none⟩)), (5, .pointer (some ⟨w3.heap.size, 0, none⟩))]) (fun _u w => RdL (fun k => w1.heap.size ≤ k ∧ k < w2.heap.size) w.heap p (gEnd b).1 (gEnd b).2 ∧ w.heap[w3.heap.size]? = some (.cells (inoC (gFn b) (gT b)).toArray 33 (0, 0)) ∧ w.heap[W.heap.size]? = some (.cells (inoC (fun _ => 0) []).toArray 33 (0, 0)) ∧ Foot nob W w) ?_ ?_
    ·
      refine Sc.seq ?_
      refine Sc.region ?_
      refine Sl.calm (Cm.field fld33_0 rfl) rfl ?_
      have hkk : k = (recL (gK b)).length := by omega
      subst hkk
      have e0 := gSt_0 b _ (Nat.le_refl _)
      rw [gSt_end] at hP9 hq e0
      refine Sl.calm (Cm.ld sca3 rfl (cellF hq rfl)) rfl ?_
      refine Sl.fork (Cm.eql rfl rfl) rfl (fun h34 => ?_) (fun h34 => ?_)
      ·
        have h3 : gK b = 3 := by omega
        have eE : gEnd b = gTxS (gR b).1 := by unfold gEnd; rw [if_pos h3]
        have eT : gT b = gTx (gR b).1 := by unfold gT; rw [if_pos h3]
        refine Sl.nil ?_
        refine At.weak [(2, _), (4, _), (5, _), (17, _), (18, _), (19, _), (20, _), (34, _)] ⟨rfl, rfl, rfl, rfl, rfl, rfl, rfl, rfl, trivial⟩ ?_
        refine At.go ?_
        refine Sc.cond_t rfl ?_
        refine Sc.region ?_
        refine Sl.calm (Cm.move rfl) rfl ?_
        refine Sl.call fn56 rfl (rdtext_ok p _ _ w9 hP9 (by have := gSt_len b _ (Nat.le_refl _); rw [gSt_end] at this; omega)) rfl ?_
        rintro _ w15 ⟨rfl, hP15, hf15⟩
        have hq15 := hf15.obj hq (by omega)
        refine Sl.calm (Cm.field fld33_10 rfl) rfl ?_
        refine Sl.store sca9 rfl rfl rfl hq15 rfl ?_
        intro w16 hg16 hs16 hf16
        have hg16 : w16.heap[w3.heap.size]? = some (.cells (inoC (gFn b) (gTx (gR b).1)).toArray 33 (0, 0)) := hg16
        have hr16 := hf16.obj (hf15.obj hr9 (by omega)) (fun h => by have h : W.heap.size = w3.heap.size := h; omega)
        have hP16 := hP15.keep hf16 (fun k hk h => by have h : k = w3.heap.size := h; omega)
        have hF16 := (hF9.trans_to hf15 (fun k hk => .inr (by have : k = p := hk; omega))).trans_to hf16 (fun k hk => .inr (by have : k = w3.heap.size := hk; omega))
        refine Sl.nil ?_
        refine At.cut () ⟨rfl, rfl, rfl, trivial⟩ ?_
        first
          | exact ⟨by rw [eE]; exact hP16, by rw [eT]; exact hg16, hr16, hF16⟩
          | exact ⟨by rw [eE]; exact hP9, by rw [eT]; exact hq, hr9, hF9⟩
      ·
        have h3 : ¬ gK b = 3 := by omega
        have eE : gEnd b = (gR b).1 := by unfold gEnd; rw [if_neg h3]
        have eT : gT b = [] := by unfold gT; rw [if_neg h3]
        refine Sl.nil ?_
        refine At.weak [(2, _), (4, _), (5, _), (17, _), (18, _), (19, _), (20, _), (34, _)] ⟨rfl, rfl, rfl, rfl, rfl, rfl, rfl, rfl, trivial⟩ ?_
        refine At.go ?_
        refine Sc.cond_f rfl ?_
        refine Sc.skip ?_
        refine At.cut () ⟨rfl, rfl, rfl, trivial⟩ ?_
        first
          | exact ⟨by rw [eE]; exact hP16, by rw [eT]; exact hg16, hr16, hF16⟩
          | exact ⟨by rw [eE]; exact hP9, by rw [eT]; exact hq, hr9, hF9⟩
    ·
      rintro _ w17 ⟨hP17, hq17, hr17, hF17⟩
      have hTl : (gT b).length ≤ maxLen := by have := gT_len b; unfold maxLen; omega
      refine Sc.seq ?_
      refine Sc.seq ?_
      refine Sc.region ?_
      refine Sl.calm (Cm.move rfl) rfl ?_
      refine Sl.call fn57 rfl (rdend_ok p _ _ w17 hP17) rfl ?_
      rintro _ w18 ⟨rfl, hf18⟩
      have hq18 := hf18.obj hq17 (by omega)
      have hr18 := hf18.obj hr17 (by omega)
      have hF18 := hF17.trans_to hf18 (fun k hk => .inr (by have : k = p := hk; omega))
      refine Sl.fork (Cm.neq rfl rfl) rfl (fun h40 => ?_) (fun h40 => ?_)
      ·
        have hno : ¬ TkOk b := fun h => h40 h.1
        have hf19 : Foot nob w18 w18 := Foot.refl _ _
        refine Sl.calm (Cm.move rfl) rfl ?_
        refine Sl.skip rfl rfl rfl rfl ?_
        refine Sl.skip rfl rfl rfl rfl ?_
        refine Sl.skip rfl rfl rfl rfl ?_
        refine Sl.calm (Cm.pick_t rfl rfl) rfl ?_
        refine Sl.nil ?_
        refine At.weak [(2, _), (4, _), (5, _), (45, _)] ⟨rfl, rfl, rfl, rfl, trivial⟩ ?_
        refine At.go ?_
        refine Sc.cond_t rfl ?_
        refine Sc.seq ?_
        refine Sc.region ?_
        refine Sl.calm (Cm.build (cs := (inoC (fun _ => 0) []).toArray) plc33 zc33 rfl (by kernel_rfl)) rfl ?_
        refine Sl.storeAll (vs := inoC (fun _ => 0) []) agg33 rfl rfl (by intro v hv; exact inoC_one _ _ v hv) (hf19.obj hr18 id) rfl ?_
        intro w20 hg20 hs20 hf20
        refine Sl.calm (Cm.assign rfl) rfl ?_
        refine Sl.nil ?_
        refine At.weak [(2, _), (3, _), (4, _), (5, _), (45, _)] ⟨rfl, rfl, rfl, rfl, rfl, trivial⟩ ?_
        refine At.go ?_
        refine Sc.ret ?_
        refine At.then_ret ?_
        refine At.retC (cs := inoC (fun _ => 0) []) rfl agg33 rfl rfl (fun j v hj => cellF hg20 hj) ?_
        obtain ⟨e1, e2, e3⟩ := tk_no hno
        exact ⟨_, rfl, by rw [e1, e2, e3], (hF18.trans hf19).trans_to hf20 (fun k hk => .inr (by have : k = W.heap.size := hk; omega))⟩
      ·
        refine Sl.calm (Cm.move rfl) rfl ?_
        refine Sl.want rfl rfl (Cm.ldM (cs := inoC (gFn b) (gT b)) agg33 rfl (fun j v hj => cellF hq18 hj)) rfl ?_
        refine Sl.callWant rfl rfl fn23 rfl (may_ok (gFn b) (gT b) w18 hTl) rfl ?_
        rintro _ w19 ⟨rfl, hf19⟩
        refine Sl.forkWant rfl rfl (Cm.notB rfl) rfl (fun h44 => ?_) (fun h44 => ?_)
        ·
          have hno : ¬ TkOk b := fun h => of_decide_eq_false h44 h.2
          refine Sl.calm (Cm.pick_f rfl rfl) rfl ?_
          refine Sl.nil ?_
          refine At.weak [(2, _), (4, _), (5, _), (45, _)] ⟨rfl, rfl, rfl, rfl, trivial⟩ ?_
          refine At.go ?_
          refine Sc.cond_t rfl ?_
          refine Sc.seq ?_
          refine Sc.region ?_
          refine Sl.calm (Cm.build (cs := (inoC (fun _ => 0) []).toArray) plc33 zc33 rfl (by kernel_rfl)) rfl ?_
          refine Sl.storeAll (vs := inoC (fun _ => 0) []) agg33 rfl rfl (by intro v hv; exact inoC_one _ _ v hv) (hf19.obj hr18 id) rfl ?_
          intro w20 hg20 hs20 hf20
          refine Sl.calm (Cm.assign rfl) rfl ?_
          refine Sl.nil ?_
          refine At.weak [(2, _), (3, _), (4, _), (5, _), (45, _)] ⟨rfl, rfl, rfl, rfl, rfl, trivial⟩ ?_
          refine At.go ?_
          refine Sc.ret ?_
          refine At.then_ret ?_
          refine At.retC (cs := inoC (fun _ => 0) []) rfl agg33 rfl rfl (fun j v hj => cellF hg20 hj) ?_
          obtain ⟨e1, e2, e3⟩ := tk_no hno
          exact ⟨_, rfl, by rw [e1, e2, e3], (hF18.trans hf19).trans_to hf20 (fun k hk => .inr (by have : k = W.heap.size := hk; omega))⟩
        ·
          have hyes : TkOk b := ⟨Decidable.not_not.1 h40, Classical.byContradiction fun h => h44 (decide_eq_false h)⟩
          refine Sl.calm (Cm.pick_f rfl rfl) rfl ?_
          refine Sl.nil ?_
          refine At.weak [(2, _), (4, _), (5, _), (45, _)] ⟨rfl, rfl, rfl, rfl, trivial⟩ ?_
          refine At.go ?_
          refine Sc.cond_f rfl ?_
          refine Sc.skip ?_
          refine At.go ?_
          refine Sc.seq ?_
          refine Sc.region ?_
          refine Sl.calm (Cm.ldM (cs := inoC (gFn b) (gT b)) agg33 rfl (fun j v hj => cellF (hf19.obj hq18 id) hj)) rfl ?_
          refine Sl.storeAll (vs := inoC (gFn b) (gT b)) agg33 rfl rfl (by intro v hv; exact inoC_one _ _ v hv) (hf19.obj hr18 id) rfl ?_
          intro w20 hg20 hs20 hf20
          refine Sl.calm (Cm.assign rfl) rfl ?_
          refine Sl.nil ?_
          refine At.weak [(2, _), (3, _), (4, _), (5, _), (45, _)] ⟨rfl, rfl, rfl, rfl, rfl, trivial⟩ ?_
          refine At.go ?_
          refine Sc.ret ?_
          refine At.retC (cs := inoC (gFn b) (gT b)) rfl agg33 rfl rfl (fun j v hj => cellF hg20 hj) ?_
          obtain ⟨e1, e2, e3⟩ := tk_yes hyes
          exact ⟨_, rfl, by rw [e1, e2, e3], (hF18.trans hf19).trans_to hf20 (fun k hk => .inr (by have : k = W.heap.size := hk; omega))⟩
end Go.Proofs.Ytoaplldahbbaiaa
/- inode: Take, the reference's. No condition beyond the bounds that each states. -/
namespace Go.Proofs.Ytoaplldahbbaiaa
open Go Go.RowKit
set_option linter.unusedVariables false

theorem putI_may {F : Nat → Int} {T : List UInt8} : (putI F T).2 = 0 ↔ mayI F T := by unfold putI; split <;> simp_all
theorem putI_eq {F : Nat → Int} {T : List UInt8} (h : mayI F T) : (putI F T).1 = (rEnd F T).2 := by unfold putI; rw [if_pos h]
theorem gF_keep {q : Rd × (Nat → Int)} {x : Fd} (h : x.o ≠ 0) : (gF q x).2 0 = q.2 0 := by
  show upd _ _ _ 0 = _
  unfold upd
  rw [if_neg (fun e => h e.symm)]

set_option maxHeartbeats 2000000 in
theorem rtake_ok (b : List UInt8) (ao0 : Option Addr) (c0 : Nat) (W : World) (hv : Vw b8 W.heap ao0 c0 b) (hb : b.length ≤ 1099511627776) :
    Calls Try.prog 26 [.slice ao0 b.length c0].toArray W (Ret (TkP W b)) := by
  refine calls_of_sc 63 [(0, _)] Try.func26 rfl rfl rfl (enter_slots ⟨rfl, trivial⟩) ?_
  refine Sc.seq ?_
  refine Sc.region ?_
  refine Sl.allocC zc33 rfl ?_
  intro w1 hg1 hs1 hf1
  have hg1 : w1.heap[W.heap.size]? = some (.cells (inoC (fun _ => 0) []).toArray 33 (0, 0)) := hg1
  have hv1 := hv.grow hf1
  refine Sl.calm (Cm.assign rfl) rfl ?_
  refine Sl.nil ?_
  refine At.go ?_
  refine Sc.seq ?_
  refine Sc.region ?_
  refine Sl.lit0 b8 sl25 rfl ?_
  intro wa hoa hsa hfa
  refine Sl.calm (Cm.move rfl) rfl ?_
  refine Sl.append b8_one sl25 rfl rfl hoa (hv1.grow hfa) (by simp; omega) (by simp; unfold maxLen; omega) rfl ?_
  intro ao1 c1 wb ho1 hfb hrb hnb
  rw [List.nil_append] at ho1
  have hf1b : Foot nob w1 wb := hfa.trans_to hfb (fr_at _).step
  have hz1b := hf1b.size
  have hfr1 : Fr w1.heap.size ao1 := fr_next (fr_at _) hrb hfa.size
  refine Sl.calm (Cm.build (cs := #[.slice ao1 b.length c1, .int .i64 0]) plc106 zc106 rfl (by kernel_rfl)) rfl ?_
  refine Sl.allocC zc106 rfl ?_
  intro wc hgc hsc hfc
  refine Sl.storeAll (vs := [.slice ao1 b.length c1, .int .i64 0]) agg106 rfl rfl (by simp [Value.oneCell']) hgc rfl ?_
  intro w2 hg2 hs2 hf2
  have hf12 : Foot nob w1 w2 := (hf1b.trans hfc).trans_to hf2 (fun k hk => .inr (by have : k = wb.heap.size := hk; omega))
  have hz12 := hf12.size
  have hzc := hfc.size
  obtain ⟨p, hp⟩ : ∃ p, p = wb.heap.size := ⟨_, rfl⟩
  rw [← hp] at hg2 ⊢
  have ho2 : Own b8 5 w2.heap ao1 c1 b := (ho1.grow hfc).keep hf2 (fun a ha h => by have := ho1.lt a ha; have h : a.block = wb.heap.size := h; omega)
  have hP2 : RdR (fun k => W.heap.size < k ∧ k < w2.heap.size) w2.heap p 0 b := ⟨ao1, c1, hg2, ho2.vw, ⟨by omega, by omega⟩, fun _ => ⟨fun ⟨a, ha, hb⟩ => by have h3 := ho1.lt a ha; omega, fun k ⟨a, ha, hb⟩ => by have h3 := ho1.lt a ha; have h4 := hfr1 a ha; omega⟩⟩
  refine Sl.nil ?_
  refine At.weak [(0, _), (2, _), (3, _), (4, _)] ⟨rfl, rfl, rfl, rfl, trivial⟩ ?_
  refine At.go ?_
  refine Sc.seq ?_
  refine Sc.region ?_
  refine Sl.calm (Cm.build (cs := (inoC (fun _ => 0) []).toArray) plc33 zc33 rfl (by kernel_rfl)) rfl ?_
  obtain ⟨w3, hw3⟩ : ∃ w, w = w2 := ⟨_, rfl⟩
  rw [← hw3] at hP2 ⊢
  refine Sl.allocC zc33 rfl ?_
  intro w4 hg4 hs4 hf4
  refine Sl.storeAll (vs := inoC (fun _ => 0) []) agg33 rfl rfl (by intro v hv; exact inoC_one _ _ v hv) hg4 rfl ?_
  intro v0 hq0 hsv hfv
  subst hw3
  have hfv0 : Foot nob w3 v0 := hf4.trans_to hfv (fun k hk => .inr (by have : k = w3.heap.size := hk; omega))
  obtain ⟨s0, hs0⟩ : ∃ s : Rd × (Nat → Int), s = ((0, b), fun _ => 0) := ⟨_, rfl⟩
  have hq0 : v0.heap[w3.heap.size]? = some (.cells (inoC s0.2 []).toArray 33 (0, 0)) := by rw [hs0]; exact hq0
  have hP0 : RdR (fun k => W.heap.size < k ∧ k < w3.heap.size) v0.heap p s0.1.1 s0.1.2 := by rw [hs0]; exact hP2.grow hfv0
  have hr0 := hfv0.obj (hf12.obj hg1 id) id
  have hl0 : s0.1.2.length ≤ b.length := by rw [hs0]; exact Nat.le_refl _
  have hF0 : Foot nob W v0 := (hf1.trans hf12).trans hfv0
  refine Sl.nil ?_
  refine At.weak [(0, _), (2, _), (3, _), (4, _), (5, _)] ⟨rfl, rfl, rfl, rfl, rfl, trivial⟩ ?_
  refine At.go ?_
  refine Sc.seq ?_
  refine Sc.region ?_
  refine Sl.call fn58 rfl (rrdnum_ok p _ _ 1 v0 hP0 (by omega)) rfl ?_
  rintro _ u1 ⟨rfl, hPu, hfu⟩
  have hqu := hfu.obj hq0 (by omega)
  refine Sl.calm (Cm.field fld33_0 rfl) rfl ?_
  refine Sl.store sca3 rfl rfl rfl hqu rfl ?_
  intro v1 hqv hsv hfv
  obtain ⟨s1, hs1⟩ : ∃ s, s = gF s0 ⟨77, 0, 1, 511⟩ := ⟨_, rfl⟩
  have hq1 : v1.heap[w3.heap.size]? = some (.cells (inoC s1.2 []).toArray 33 (0, 0)) := by rw [hs1]; exact hqv
  have hP1 : RdR (fun k => W.heap.size < k ∧ k < w3.heap.size) v1.heap p s1.1.1 s1.1.2 := by rw [hs1]; exact hPu.keep hfv (fun k hk h => by have h : k = w3.heap.size := h; omega)
  have hr1 := hfv.obj (hfu.obj hr0 (by omega)) (fun h => by have h : W.heap.size = w3.heap.size := h; omega)
  have hl1 : s1.1.2.length ≤ s0.1.2.length := by rw [hs1]; exact gF_len _ _
  have hF1 : Foot nob W v1 := (hF0.trans_to hfu (fun k hk => .inr (by have : k = p := hk; omega))).trans_to hfv (fun k hk => .inr (by have : k = w3.heap.size := hk; omega))
  have hk1 : s1.2 0 = gK b := by rw [hs1, hs0]; show upd (fun _ => 0) 0 (gK b) 0 = _; simp [upd]
  have hg0 : s1 = g0 b := by rw [hs1, hs0]; rfl
  refine Sl.nil ?_
  refine At.weak [(0, _), (2, _), (3, _), (4, _), (5, _)] ⟨rfl, rfl, rfl, rfl, rfl, trivial⟩ ?_
  refine At.go ?_
  refine Sc.seq ?_
  refine Sc.region ?_
  refine Sl.call fn58 rfl (rrdnum_ok p _ _ 2 v1 hP1 (by omega)) rfl ?_
  rintro _ u2 ⟨rfl, hPu, hfu⟩
  have hqu := hfu.obj hq1 (by omega)
  refine Sl.calm (Cm.field fld33_1 rfl) rfl ?_
  refine Sl.store sca3 rfl rfl rfl hqu rfl ?_
  intro v2 hqv hsv hfv
  obtain ⟨s2, hs2⟩ : ∃ s, s = gF s1 ⟨77, 1, 2, 511⟩ := ⟨_, rfl⟩
  have hq2 : v2.heap[w3.heap.size]? = some (.cells (inoC s2.2 []).toArray 33 (0, 0)) := by rw [hs2]; exact hqv
  have hP2 : RdR (fun k => W.heap.size < k ∧ k < w3.heap.size) v2.heap p s2.1.1 s2.1.2 := by rw [hs2]; exact hPu.keep hfv (fun k hk h => by have h : k = w3.heap.size := h; omega)
  have hr2 := hfv.obj (hfu.obj hr1 (by omega)) (fun h => by have h : W.heap.size = w3.heap.size := h; omega)
  have hl2 : s2.1.2.length ≤ s1.1.2.length := by rw [hs2]; exact gF_len _ _
  have hF2 : Foot nob W v2 := (hF1.trans_to hfu (fun k hk => .inr (by have : k = p := hk; omega))).trans_to hfv (fun k hk => .inr (by have : k = w3.heap.size := hk; omega))
  have hk2 : s2.2 0 = gK b := by rw [hs2, gF_keep (by decide)]; exact hk1
  refine Sl.nil ?_
  refine At.weak [(0, _), (2, _), (3, _), (4, _), (5, _)] ⟨rfl, rfl, rfl, rfl, rfl, trivial⟩ ?_
  refine At.go ?_
  refine Sc.seq ?_
  refine Sc.region ?_
  refine Sl.call fn58 rfl (rrdnum_ok p _ _ 2 v2 hP2 (by omega)) rfl ?_
  rintro _ u3 ⟨rfl, hPu, hfu⟩
  have hqu := hfu.obj hq2 (by omega)
  refine Sl.calm (Cm.field fld33_2 rfl) rfl ?_
  refine Sl.store sca3 rfl rfl rfl hqu rfl ?_
  intro v3 hqv hsv hfv
  obtain ⟨s3, hs3⟩ : ∃ s, s = gF s2 ⟨78, 2, 2, 2047⟩ := ⟨_, rfl⟩
  have hq3 : v3.heap[w3.heap.size]? = some (.cells (inoC s3.2 []).toArray 33 (0, 0)) := by rw [hs3]; exact hqv
  have hP3 : RdR (fun k => W.heap.size < k ∧ k < w3.heap.size) v3.heap p s3.1.1 s3.1.2 := by rw [hs3]; exact hPu.keep hfv (fun k hk h => by have h : k = w3.heap.size := h; omega)
  have hr3 := hfv.obj (hfu.obj hr2 (by omega)) (fun h => by have h : W.heap.size = w3.heap.size := h; omega)
  have hl3 : s3.1.2.length ≤ s2.1.2.length := by rw [hs3]; exact gF_len _ _
  have hF3 : Foot nob W v3 := (hF2.trans_to hfu (fun k hk => .inr (by have : k = p := hk; omega))).trans_to hfv (fun k hk => .inr (by have : k = w3.heap.size := hk; omega))
  have hk3 : s3.2 0 = gK b := by rw [hs3, gF_keep (by decide)]; exact hk2
  refine Sl.nil ?_
  refine At.weak [(0, _), (2, _), (3, _), (4, _), (5, _)] ⟨rfl, rfl, rfl, rfl, rfl, trivial⟩ ?_
  refine At.go ?_
  refine Sc.seq ?_
  refine Sc.region ?_
  refine Sl.call fn58 rfl (rrdnum_ok p _ _ 2 v3 hP3 (by omega)) rfl ?_
  rintro _ u4 ⟨rfl, hPu, hfu⟩
  have hqu := hfu.obj hq3 (by omega)
  refine Sl.calm (Cm.field fld33_3 rfl) rfl ?_
  refine Sl.store sca3 rfl rfl rfl hqu rfl ?_
  intro v4 hqv hsv hfv
  obtain ⟨s4, hs4⟩ : ∃ s, s = gF s3 ⟨79, 3, 2, 2047⟩ := ⟨_, rfl⟩
  have hq4 : v4.heap[w3.heap.size]? = some (.cells (inoC s4.2 []).toArray 33 (0, 0)) := by rw [hs4]; exact hqv
  have hP4 : RdR (fun k => W.heap.size < k ∧ k < w3.heap.size) v4.heap p s4.1.1 s4.1.2 := by rw [hs4]; exact hPu.keep hfv (fun k hk h => by have h : k = w3.heap.size := h; omega)
  have hr4 := hfv.obj (hfu.obj hr3 (by omega)) (fun h => by have h : W.heap.size = w3.heap.size := h; omega)
  have hl4 : s4.1.2.length ≤ s3.1.2.length := by rw [hs4]; exact gF_len _ _
  have hF4 : Foot nob W v4 := (hF3.trans_to hfu (fun k hk => .inr (by have : k = p := hk; omega))).trans_to hfv (fun k hk => .inr (by have : k = w3.heap.size := hk; omega))
  have hk4 : s4.2 0 = gK b := by rw [hs4, gF_keep (by decide)]; exact hk3
  refine Sl.nil ?_
  refine At.weak [(0, _), (2, _), (3, _), (4, _), (5, _)] ⟨rfl, rfl, rfl, rfl, rfl, trivial⟩ ?_
  refine At.go ?_
  refine Sc.seq ?_
  refine Sc.region ?_
  refine Sl.call fn58 rfl (rrdnum_ok p _ _ 2 v4 hP4 (by omega)) rfl ?_
  rintro _ u5 ⟨rfl, hPu, hfu⟩
  have hqu := hfu.obj hq4 (by omega)
  refine Sl.calm (Cm.field fld33_4 rfl) rfl ?_
  refine Sl.store sca3 rfl rfl rfl hqu rfl ?_
  intro v5 hqv hsv hfv
  obtain ⟨s5, hs5⟩ : ∃ s, s = gF s4 ⟨80, 4, 2, 1024⟩ := ⟨_, rfl⟩
  have hq5 : v5.heap[w3.heap.size]? = some (.cells (inoC s5.2 []).toArray 33 (0, 0)) := by rw [hs5]; exact hqv
  have hP5 : RdR (fun k => W.heap.size < k ∧ k < w3.heap.size) v5.heap p s5.1.1 s5.1.2 := by rw [hs5]; exact hPu.keep hfv (fun k hk h => by have h : k = w3.heap.size := h; omega)
  have hr5 := hfv.obj (hfu.obj hr4 (by omega)) (fun h => by have h : W.heap.size = w3.heap.size := h; omega)
  have hl5 : s5.1.2.length ≤ s4.1.2.length := by rw [hs5]; exact gF_len _ _
  have hF5 : Foot nob W v5 := (hF4.trans_to hfu (fun k hk => .inr (by have : k = p := hk; omega))).trans_to hfv (fun k hk => .inr (by have : k = w3.heap.size := hk; omega))
  have hk5 : s5.2 0 = gK b := by rw [hs5, gF_keep (by decide)]; exact hk4
  refine Sl.nil ?_
  refine At.weak [(0, _), (2, _), (3, _), (4, _), (5, _)] ⟨rfl, rfl, rfl, rfl, rfl, trivial⟩ ?_
  refine At.go ?_
  refine Sc.seq ?_
  refine Sc.region ?_
  refine Sl.call fn58 rfl (rrdnum_ok p _ _ 4 v5 hP5 (by omega)) rfl ?_
  rintro _ u6 ⟨rfl, hPu, hfu⟩
  have hqu := hfu.obj hq5 (by omega)
  refine Sl.calm (Cm.field fld33_5 rfl) rfl ?_
  refine Sl.store sca3 rfl rfl rfl hqu rfl ?_
  intro v6 hqv hsv hfv
  obtain ⟨s6, hs6⟩ : ∃ s, s = gF s5 ⟨81, 5, 4, 4294967295⟩ := ⟨_, rfl⟩
  have hq6 : v6.heap[w3.heap.size]? = some (.cells (inoC s6.2 []).toArray 33 (0, 0)) := by rw [hs6]; exact hqv
  have hP6 : RdR (fun k => W.heap.size < k ∧ k < w3.heap.size) v6.heap p s6.1.1 s6.1.2 := by rw [hs6]; exact hPu.keep hfv (fun k hk h => by have h : k = w3.heap.size := h; omega)
  have hr6 := hfv.obj (hfu.obj hr5 (by omega)) (fun h => by have h : W.heap.size = w3.heap.size := h; omega)
  have hl6 : s6.1.2.length ≤ s5.1.2.length := by rw [hs6]; exact gF_len _ _
  have hF6 : Foot nob W v6 := (hF5.trans_to hfu (fun k hk => .inr (by have : k = p := hk; omega))).trans_to hfv (fun k hk => .inr (by have : k = w3.heap.size := hk; omega))
  have hk6 : s6.2 0 = gK b := by rw [hs6, gF_keep (by decide)]; exact hk5
  have hcom : s6 = comL.foldl gF (g0 b) := by rw [hs6, hs5, hs4, hs3, hs2, hg0]; rfl
  refine Sl.nil ?_
  refine At.weak [(0, _), (2, _), (3, _), (4, _), (5, _)] ⟨rfl, rfl, rfl, rfl, rfl, trivial⟩ ?_
  refine At.go ?_
  refine Sc.cut (β := Unit) (fun _u => [(0, .slice ao0 b.length c0), (2, .pointer (some ⟨W.heap.size, 0, none⟩)), (5, .pointer (some ⟨w3.heap.size, 0, none⟩))]) (fun _u w => w.heap[w3.heap.size]? = some (.cells (inoC (gFn b) (gT b)).toArray 33 (0, 0)) ∧ w.heap[W.heap.size]? = some (.cells (inoC (fun _ => 0) []).toArray 33 (0, 0)) ∧ Foot nob W w) ?_ ?_
  ·
    refine Sc.seq ?_
    refine Sc.region ?_
    refine Sl.calm (Cm.field fld33_0 rfl) rfl ?_
    refine Sl.calm (Cm.ld sca3 rfl (cellF hq6 rfl)) rfl ?_
    refine Sl.nil ?_
    refine At.weak [(0, _), (2, _), (3, _), (4, _), (5, _), (26, _)] ⟨rfl, rfl, rfl, rfl, rfl, rfl, trivial⟩ ?_
    refine At.go ?_
    refine Sc.block ?_
    refine Sc.seq ?_
    refine Sc.region ?_
    refine Sl.fork (Cm.eql rfl rfl) rfl (fun h28 => ?_) (fun h28 => ?_)
    ·
      have hk : gK b = 2 := by omega
      refine Sl.calm (Cm.assign rfl) rfl ?_
      refine Sl.nil ?_
      refine At.weak [(0, _), (2, _), (3, _), (4, _), (5, _), (26, _), (27, _)] ⟨rfl, rfl, rfl, rfl, rfl, rfl, rfl, trivial⟩ ?_
      refine At.go ?_
      refine Sc.cond_t rfl ?_
      refine Sc.seq ?_
      refine Sc.region ?_
      refine Sl.call fn58 rfl (rrdnum_ok p _ _ 4 v6 hP6 (by omega)) rfl ?_
      rintro _ u7 ⟨rfl, hPu, hfu⟩
      have hqu := hfu.obj hq6 (by omega)
      refine Sl.calm (Cm.field fld33_6 rfl) rfl ?_
      refine Sl.store sca3 rfl rfl rfl hqu rfl ?_
      intro v7 hqv hsv hfv
      obtain ⟨s7, hs7⟩ : ∃ s, s = gF s6 ⟨82, 6, 4, 4294967295⟩ := ⟨_, rfl⟩
      have hq7 : v7.heap[w3.heap.size]? = some (.cells (inoC s7.2 []).toArray 33 (0, 0)) := by rw [hs7]; exact hqv
      have hP7 : RdR (fun k => W.heap.size < k ∧ k < w3.heap.size) v7.heap p s7.1.1 s7.1.2 := by rw [hs7]; exact hPu.keep hfv (fun k hk h => by have h : k = w3.heap.size := h; omega)
      have hr7 := hfv.obj (hfu.obj hr6 (by omega)) (fun h => by have h : W.heap.size = w3.heap.size := h; omega)
      have hl7 : s7.1.2.length ≤ s6.1.2.length := by rw [hs7]; exact gF_len _ _
      have hF7 : Foot nob W v7 := (hF6.trans_to hfu (fun k hk => .inr (by have : k = p := hk; omega))).trans_to hfv (fun k hk => .inr (by have : k = w3.heap.size := hk; omega))
      have hk7 : s7.2 0 = gK b := by rw [hs7, gF_keep (by decide)]; exact hk6
      refine Sl.nil ?_
      refine At.weak [(0, _), (2, _), (3, _), (4, _), (5, _), (26, _), (27, _)] ⟨rfl, rfl, rfl, rfl, rfl, rfl, rfl, trivial⟩ ?_
      refine At.go ?_
      refine Sc.seq ?_
      refine Sc.region ?_
      refine Sl.call fn58 rfl (rrdnum_ok p _ _ 2 v7 hP7 (by omega)) rfl ?_
      rintro _ u8 ⟨rfl, hPu, hfu⟩
      have hqu := hfu.obj hq7 (by omega)
      refine Sl.calm (Cm.field fld33_7 rfl) rfl ?_
      refine Sl.store sca3 rfl rfl rfl hqu rfl ?_
      intro v8 hqv hsv hfv
      obtain ⟨s8, hs8⟩ : ∃ s, s = gF s7 ⟨83, 7, 2, 4096⟩ := ⟨_, rfl⟩
      have hq8 : v8.heap[w3.heap.size]? = some (.cells (inoC s8.2 []).toArray 33 (0, 0)) := by rw [hs8]; exact hqv
      have hP8 : RdR (fun k => W.heap.size < k ∧ k < w3.heap.size) v8.heap p s8.1.1 s8.1.2 := by rw [hs8]; exact hPu.keep hfv (fun k hk h => by have h : k = w3.heap.size := h; omega)
      have hr8 := hfv.obj (hfu.obj hr7 (by omega)) (fun h => by have h : W.heap.size = w3.heap.size := h; omega)
      have hl8 : s8.1.2.length ≤ s7.1.2.length := by rw [hs8]; exact gF_len _ _
      have hF8 : Foot nob W v8 := (hF7.trans_to hfu (fun k hk => .inr (by have : k = p := hk; omega))).trans_to hfv (fun k hk => .inr (by have : k = w3.heap.size := hk; omega))
      have hk8 : s8.2 0 = gK b := by rw [hs8, gF_keep (by decide)]; exact hk7
      refine Sl.nil ?_
      refine At.weak [(0, _), (2, _), (3, _), (4, _), (5, _), (26, _), (27, _)] ⟨rfl, rfl, rfl, rfl, rfl, rfl, rfl, trivial⟩ ?_
      refine At.go ?_
      refine Sc.seq ?_
      refine Sc.region ?_
      refine Sl.call fn58 rfl (rrdnum_ok p _ _ 2 v8 hP8 (by omega)) rfl ?_
      rintro _ u9 ⟨rfl, hPu, hfu⟩
      have hqu := hfu.obj hq8 (by omega)
      refine Sl.calm (Cm.field fld33_8 rfl) rfl ?_
      refine Sl.store sca3 rfl rfl rfl hqu rfl ?_
      intro v9 hqv hsv hfv
      obtain ⟨s9, hs9⟩ : ∃ s, s = gF s8 ⟨84, 8, 2, 1024⟩ := ⟨_, rfl⟩
      have hq9 : v9.heap[w3.heap.size]? = some (.cells (inoC s9.2 []).toArray 33 (0, 0)) := by rw [hs9]; exact hqv
      have hP9 : RdR (fun k => W.heap.size < k ∧ k < w3.heap.size) v9.heap p s9.1.1 s9.1.2 := by rw [hs9]; exact hPu.keep hfv (fun k hk h => by have h : k = w3.heap.size := h; omega)
      have hr9 := hfv.obj (hfu.obj hr8 (by omega)) (fun h => by have h : W.heap.size = w3.heap.size := h; omega)
      have hl9 : s9.1.2.length ≤ s8.1.2.length := by rw [hs9]; exact gF_len _ _
      have hF9 : Foot nob W v9 := (hF8.trans_to hfu (fun k hk => .inr (by have : k = p := hk; omega))).trans_to hfv (fun k hk => .inr (by have : k = w3.heap.size := hk; omega))
      have hk9 : s9.2 0 = gK b := by rw [hs9, gF_keep (by decide)]; exact hk8
      refine Sl.nil ?_
      refine At.weak [(0, _), (2, _), (3, _), (4, _), (5, _), (26, _), (27, _)] ⟨rfl, rfl, rfl, rfl, rfl, rfl, rfl, trivial⟩ ?_
      refine At.go ?_
      refine Sc.region ?_
      refine Sl.call fn58 rfl (rrdnum_ok p _ _ 1 v9 hP9 (by omega)) rfl ?_
      rintro _ u10 ⟨rfl, hPu, hfu⟩
      have hqu := hfu.obj hq9 (by omega)
      refine Sl.calm (Cm.field fld33_9 rfl) rfl ?_
      refine Sl.store sca3 rfl rfl rfl hqu rfl ?_
      intro v10 hqv hsv hfv
      obtain ⟨s10, hs10⟩ : ∃ s, s = gF s9 ⟨85, 9, 1, 127⟩ := ⟨_, rfl⟩
      have hq10 : v10.heap[w3.heap.size]? = some (.cells (inoC s10.2 []).toArray 33 (0, 0)) := by rw [hs10]; exact hqv
      have hP10 : RdR (fun k => W.heap.size < k ∧ k < w3.heap.size) v10.heap p s10.1.1 s10.1.2 := by rw [hs10]; exact hPu.keep hfv (fun k hk h => by have h : k = w3.heap.size := h; omega)
      have hr10 := hfv.obj (hfu.obj hr9 (by omega)) (fun h => by have h : W.heap.size = w3.heap.size := h; omega)
      have hl10 : s10.1.2.length ≤ s9.1.2.length := by rw [hs10]; exact gF_len _ _
      have hF10 : Foot nob W v10 := (hF9.trans_to hfu (fun k hk => .inr (by have : k = p := hk; omega))).trans_to hfv (fun k hk => .inr (by have : k = w3.heap.size := hk; omega))
      have hk10 : s10.2 0 = gK b := by rw [hs10, gF_keep (by decide)]; exact hk9
      refine Sl.nil ?_
      refine At.block_normal ?_
      refine At.cut () ⟨rfl, rfl, rfl, trivial⟩ ?_
      have eR : gR b = s10 := by unfold gR recL fldL; rw [if_pos hk, List.foldl_append, ← hcom, hs10, hs9, hs8, hs7]; rfl
      have eF : gFn b = s10.2 := by unfold gFn; rw [eR]
      have eT : gT b = [] := by unfold gT; rw [if_neg (by omega)]
      exact ⟨by rw [eF, eT]; exact hq10, hr10, hF10⟩
    ·
      have hn2 : ¬ gK b = 2 := by omega
      refine Sl.calm (Cm.assign rfl) rfl ?_
      refine Sl.nil ?_
      refine At.weak [(0, _), (2, _), (3, _), (4, _), (5, _), (26, _), (27, _)] ⟨rfl, rfl, rfl, rfl, rfl, rfl, rfl, trivial⟩ ?_
      refine At.go ?_
      refine Sc.cond_f rfl ?_
      refine Sc.seq ?_
      refine Sc.region ?_
      refine Sl.fork (Cm.eql rfl rfl) rfl (fun h38 => ?_) (fun h38 => ?_)
      ·
        have hk : gK b = 1 := by omega
        refine Sl.calm (Cm.assign rfl) rfl ?_
        refine Sl.nil ?_
        refine At.weak [(0, _), (2, _), (3, _), (4, _), (5, _), (26, _), (27, _), (37, _)] ⟨rfl, rfl, rfl, rfl, rfl, rfl, rfl, rfl, trivial⟩ ?_
        refine At.go ?_
        refine Sc.cond_t rfl ?_
        refine Sc.seq ?_
        refine Sc.region ?_
        refine Sl.call fn58 rfl (rrdnum_ok p _ _ 4 v6 hP6 (by omega)) rfl ?_
        rintro _ u7 ⟨rfl, hPu, hfu⟩
        have hqu := hfu.obj hq6 (by omega)
        refine Sl.calm (Cm.field fld33_6 rfl) rfl ?_
        refine Sl.store sca3 rfl rfl rfl hqu rfl ?_
        intro v7 hqv hsv hfv
        obtain ⟨s7, hs7⟩ : ∃ s, s = gF s6 ⟨82, 6, 4, 4294967295⟩ := ⟨_, rfl⟩
        have hq7 : v7.heap[w3.heap.size]? = some (.cells (inoC s7.2 []).toArray 33 (0, 0)) := by rw [hs7]; exact hqv
        have hP7 : RdR (fun k => W.heap.size < k ∧ k < w3.heap.size) v7.heap p s7.1.1 s7.1.2 := by rw [hs7]; exact hPu.keep hfv (fun k hk h => by have h : k = w3.heap.size := h; omega)
        have hr7 := hfv.obj (hfu.obj hr6 (by omega)) (fun h => by have h : W.heap.size = w3.heap.size := h; omega)
        have hl7 : s7.1.2.length ≤ s6.1.2.length := by rw [hs7]; exact gF_len _ _
        have hF7 : Foot nob W v7 := (hF6.trans_to hfu (fun k hk => .inr (by have : k = p := hk; omega))).trans_to hfv (fun k hk => .inr (by have : k = w3.heap.size := hk; omega))
        have hk7 : s7.2 0 = gK b := by rw [hs7, gF_keep (by decide)]; exact hk6
        refine Sl.nil ?_
        refine At.weak [(0, _), (2, _), (3, _), (4, _), (5, _), (26, _), (27, _), (37, _)] ⟨rfl, rfl, rfl, rfl, rfl, rfl, rfl, rfl, trivial⟩ ?_
        refine At.go ?_
        refine Sc.region ?_
        refine Sl.call fn58 rfl (rrdnum_ok p _ _ 4 v7 hP7 (by omega)) rfl ?_
        rintro _ u8 ⟨rfl, hPu, hfu⟩
        have hqu := hfu.obj hq7 (by omega)
        refine Sl.calm (Cm.field fld33_7 rfl) rfl ?_
        refine Sl.store sca3 rfl rfl rfl hqu rfl ?_
        intro v8 hqv hsv hfv
        obtain ⟨s8, hs8⟩ : ∃ s, s = gF s7 ⟨83, 7, 4, 1048576⟩ := ⟨_, rfl⟩
        have hq8 : v8.heap[w3.heap.size]? = some (.cells (inoC s8.2 []).toArray 33 (0, 0)) := by rw [hs8]; exact hqv
        have hP8 : RdR (fun k => W.heap.size < k ∧ k < w3.heap.size) v8.heap p s8.1.1 s8.1.2 := by rw [hs8]; exact hPu.keep hfv (fun k hk h => by have h : k = w3.heap.size := h; omega)
        have hr8 := hfv.obj (hfu.obj hr7 (by omega)) (fun h => by have h : W.heap.size = w3.heap.size := h; omega)
        have hl8 : s8.1.2.length ≤ s7.1.2.length := by rw [hs8]; exact gF_len _ _
        have hF8 : Foot nob W v8 := (hF7.trans_to hfu (fun k hk => .inr (by have : k = p := hk; omega))).trans_to hfv (fun k hk => .inr (by have : k = w3.heap.size := hk; omega))
        have hk8 : s8.2 0 = gK b := by rw [hs8, gF_keep (by decide)]; exact hk7
        refine Sl.nil ?_
        refine At.block_normal ?_
        refine At.cut () ⟨rfl, rfl, rfl, trivial⟩ ?_
        have eR : gR b = s8 := by unfold gR recL fldL; rw [if_neg hn2, if_pos hk, List.foldl_append, ← hcom, hs8, hs7]; rfl
        have eF : gFn b = s8.2 := by unfold gFn; rw [eR]
        have eT : gT b = [] := by unfold gT; rw [if_neg (by omega)]
        exact ⟨by rw [eF, eT]; exact hq8, hr8, hF8⟩
      ·
        have hn1 : ¬ gK b = 1 := by omega
        refine Sl.calm (Cm.assign rfl) rfl ?_
        refine Sl.nil ?_
        refine At.weak [(0, _), (2, _), (3, _), (4, _), (5, _), (26, _), (27, _), (37, _)] ⟨rfl, rfl, rfl, rfl, rfl, rfl, rfl, rfl, trivial⟩ ?_
        refine At.go ?_
        refine Sc.cond_f rfl ?_
        refine Sc.seq ?_
        refine Sc.region ?_
        refine Sl.fork (Cm.eql rfl rfl) rfl (fun h44 => ?_) (fun h44 => ?_)
        ·
          have hk : gK b = 3 := by omega
          refine Sl.calm (Cm.assign rfl) rfl ?_
          refine Sl.nil ?_
          refine At.weak [(0, _), (2, _), (3, _), (4, _), (5, _), (26, _), (27, _), (37, _), (43, _)] ⟨rfl, rfl, rfl, rfl, rfl, rfl, rfl, rfl, rfl, trivial⟩ ?_
          refine At.go ?_
          refine Sc.cond_t rfl ?_
          refine Sc.region ?_
          refine Sl.call fn59 rfl (rrdtext_ok p _ _ v6 hP6 (by omega)) rfl ?_
          rintro _ u7 ⟨rfl, hPu, hfu⟩
          have hqu := hfu.obj hq6 (by omega)
          refine Sl.calm (Cm.field fld33_10 rfl) rfl ?_
          refine Sl.store sca9 rfl rfl rfl hqu rfl ?_
          intro v7 hqv hsv hfv
          have hq7 : v7.heap[w3.heap.size]? = some (.cells (inoC s6.2 (gTx s6.1)).toArray 33 (0, 0)) := hqv
          have hr7 := hfv.obj (hfu.obj hr6 (by omega)) (fun h => by have h : W.heap.size = w3.heap.size := h; omega)
          have hF7 : Foot nob W v7 := (hF6.trans_to hfu (fun k hk => .inr (by have : k = p := hk; omega))).trans_to hfv (fun k hk => .inr (by have : k = w3.heap.size := hk; omega))
          refine Sl.nil ?_
          refine At.block_normal ?_
          refine At.cut () ⟨rfl, rfl, rfl, trivial⟩ ?_
          have eR : gR b = s6 := by unfold gR recL fldL; rw [if_neg hn2, if_neg hn1, List.append_nil]; exact hcom.symm
          have eF : gFn b = s6.2 := by unfold gFn; rw [eR]
          have eT : gT b = gTx s6.1 := by unfold gT; rw [if_pos hk, eR]
          exact ⟨by rw [eF, eT]; exact hq7, hr7, hF7⟩
        ·
          have hn3 : ¬ gK b = 3 := by omega
          refine Sl.calm (Cm.assign rfl) rfl ?_
          refine Sl.nil ?_
          refine At.weak [(0, _), (2, _), (3, _), (4, _), (5, _), (26, _), (27, _), (37, _), (43, _)] ⟨rfl, rfl, rfl, rfl, rfl, rfl, rfl, rfl, rfl, trivial⟩ ?_
          refine At.go ?_
          refine Sc.cond_f rfl ?_
          refine Sc.skip ?_
          refine At.block_normal ?_
          refine At.cut () ⟨rfl, rfl, rfl, trivial⟩ ?_
          have eR : gR b = s6 := by unfold gR recL fldL; rw [if_neg hn2, if_neg hn1, List.append_nil]; exact hcom.symm
          have eF : gFn b = s6.2 := by unfold gFn; rw [eR]
          have eT : gT b = [] := by unfold gT; rw [if_neg hn3]
          exact ⟨by rw [eF, eT]; exact hq6, hr6, hF6⟩
  ·
    rintro _ w17 ⟨hq17, hr17, hF17⟩
    have hTl : (gT b).length ≤ maxLen := by have := gT_len b; unfold maxLen; omega
    refine Sc.seq ?_
    refine Sc.region ?_
    refine Sl.calm (Cm.ldM (cs := inoC (gFn b) (gT b)) agg33 rfl (fun j v hj => cellF hq17 hj)) rfl ?_
    refine Sl.call fn22 rfl (rput_ok (gFn b) (gT b) w17 hTl) rfl ?_
    rintro _ w18 ⟨a3, c3, rfl, ho3, hfr3, hf3⟩
    have hq18 := hf3.obj hq17 id
    have hr18 := hf3.obj hr17 id
    have hF18 := hF17.trans hf3
    refine Sl.calm (Cm.move rfl) rfl ?_
    refine Sl.calm (Cm.extract rfl rfl) rfl ?_
    refine Sl.calm (Cm.extract rfl rfl) rfl ?_
    refine Sl.calm (Cm.assign rfl) rfl ?_
    refine Sl.calm (Cm.assign rfl) rfl ?_
    refine Sl.nil ?_
    refine At.weak [(0, _), (2, _), (5, _), (6, _), (7, _)] ⟨rfl, rfl, rfl, rfl, rfl, trivial⟩ ?_
    refine At.go ?_
    refine Sc.seq ?_
    refine Sc.seq ?_
    refine Sc.region ?_
    refine Sl.calm (Cm.move rfl) rfl ?_
    refine Sl.fork (Cm.neq rfl rfl) rfl (fun h53 => ?_) (fun h53 => ?_)
    ·
      have hno : ¬ TkOk b := fun h => h53 (putI_may.2 h.2)
      refine Sl.calm (Cm.move rfl) rfl ?_
      refine Sl.skip rfl rfl rfl rfl ?_
      refine Sl.skip rfl rfl rfl rfl ?_
      refine Sl.skip rfl rfl rfl rfl ?_
      refine Sl.skip rfl rfl rfl rfl ?_
      refine Sl.skip rfl rfl rfl rfl ?_
      refine Sl.calm (Cm.pick_t rfl rfl) rfl ?_
      refine Sl.nil ?_
      refine At.weak [(0, _), (2, _), (5, _), (6, _), (7, _), (60, _)] ⟨rfl, rfl, rfl, rfl, rfl, rfl, trivial⟩ ?_
      refine At.go ?_
      refine Sc.cond_t rfl ?_
      refine Sc.seq ?_
      refine Sc.region ?_
      refine Sl.calm (Cm.build (cs := (inoC (fun _ => 0) []).toArray) plc33 zc33 rfl (by kernel_rfl)) rfl ?_
      refine Sl.storeAll (vs := inoC (fun _ => 0) []) agg33 rfl rfl (by intro v hv; exact inoC_one _ _ v hv) hr18 rfl ?_
      intro w20 hg20 hs20 hf20
      refine Sl.calm (Cm.assign rfl) rfl ?_
      refine Sl.nil ?_
      refine At.weak [(0, _), (2, _), (3, _), (5, _), (6, _), (7, _), (60, _)] ⟨rfl, rfl, rfl, rfl, rfl, rfl, rfl, trivial⟩ ?_
      refine At.go ?_
      refine Sc.ret ?_
      refine At.then_ret ?_
      refine At.retC (cs := inoC (fun _ => 0) []) rfl agg33 rfl rfl (fun j v hj => cellF hg20 hj) ?_
      obtain ⟨e1, e2, e3⟩ := tk_no hno
      exact ⟨_, rfl, by rw [e1, e2, e3], hF18.trans_to hf20 (fun k hk => .inr (by have : k = W.heap.size := hk; omega))⟩
    ·
      have hm := putI_may.1 (Decidable.not_not.1 h53)
      refine Sl.calm (Cm.move rfl) rfl ?_
      refine Sl.want rfl rfl (Cm.move rfl) rfl ?_
      refine Sl.want rfl rfl (Cm.strIn sl25 ty5 ty9 rfl ho3.vw) rfl ?_
      refine Sl.want rfl rfl (Cm.move rfl) rfl ?_
      refine Sl.want rfl rfl (Cm.strIn sl25 ty5 ty9 rfl (hv.grow hF18)) rfl ?_
      refine Sl.forkWant rfl rfl (Cm.neqBs rfl rfl) rfl (fun h59 => ?_) (fun h59 => ?_)
      ·
        have hno : ¬ TkOk b := fun h => h59 (by rw [putI_eq hm]; exact (take_iff hm).1 h.1)
        refine Sl.calm (Cm.pick_f rfl rfl) rfl ?_
        refine Sl.nil ?_
        refine At.weak [(0, _), (2, _), (5, _), (6, _), (7, _), (60, _)] ⟨rfl, rfl, rfl, rfl, rfl, rfl, trivial⟩ ?_
        refine At.go ?_
        refine Sc.cond_t rfl ?_
        refine Sc.seq ?_
        refine Sc.region ?_
        refine Sl.calm (Cm.build (cs := (inoC (fun _ => 0) []).toArray) plc33 zc33 rfl (by kernel_rfl)) rfl ?_
        refine Sl.storeAll (vs := inoC (fun _ => 0) []) agg33 rfl rfl (by intro v hv; exact inoC_one _ _ v hv) hr18 rfl ?_
        intro w20 hg20 hs20 hf20
        refine Sl.calm (Cm.assign rfl) rfl ?_
        refine Sl.nil ?_
        refine At.weak [(0, _), (2, _), (3, _), (5, _), (6, _), (7, _), (60, _)] ⟨rfl, rfl, rfl, rfl, rfl, rfl, rfl, trivial⟩ ?_
        refine At.go ?_
        refine Sc.ret ?_
        refine At.then_ret ?_
        refine At.retC (cs := inoC (fun _ => 0) []) rfl agg33 rfl rfl (fun j v hj => cellF hg20 hj) ?_
        obtain ⟨e1, e2, e3⟩ := tk_no hno
        exact ⟨_, rfl, by rw [e1, e2, e3], hF18.trans_to hf20 (fun k hk => .inr (by have : k = W.heap.size := hk; omega))⟩
      ·
        have hyes : TkOk b := ⟨(take_iff hm).2 (by rw [← putI_eq hm]; exact Decidable.not_not.1 h59), hm⟩
        refine Sl.calm (Cm.pick_f rfl rfl) rfl ?_
        refine Sl.nil ?_
        refine At.weak [(0, _), (2, _), (5, _), (6, _), (7, _), (60, _)] ⟨rfl, rfl, rfl, rfl, rfl, rfl, trivial⟩ ?_
        refine At.go ?_
        refine Sc.cond_f rfl ?_
        refine Sc.skip ?_
        refine At.go ?_
        refine Sc.seq ?_
        refine Sc.region ?_
        refine Sl.calm (Cm.ldM (cs := inoC (gFn b) (gT b)) agg33 rfl (fun j v hj => cellF hq18 hj)) rfl ?_
        refine Sl.storeAll (vs := inoC (gFn b) (gT b)) agg33 rfl rfl (by intro v hv; exact inoC_one _ _ v hv) hr18 rfl ?_
        intro w20 hg20 hs20 hf20
        refine Sl.calm (Cm.assign rfl) rfl ?_
        refine Sl.nil ?_
        refine At.weak [(0, _), (2, _), (3, _), (5, _), (6, _), (7, _), (60, _)] ⟨rfl, rfl, rfl, rfl, rfl, rfl, rfl, trivial⟩ ?_
        refine At.go ?_
        refine Sc.ret ?_
        refine At.retC (cs := inoC (gFn b) (gT b)) rfl agg33 rfl rfl (fun j v hj => cellF hg20 hj) ?_
        obtain ⟨e1, e2, e3⟩ := tk_yes hyes
        exact ⟨_, rfl, by rw [e1, e2, e3], hF18.trans_to hf20 (fun k hk => .inr (by have : k = W.heap.size := hk; omega))⟩
end Go.Proofs.Ytoaplldahbbaiaa
/- inode: the laws on what is taken. No condition beyond the bounds that each states. -/
namespace Go.Proofs.Ytoaplldahbbaiaa
open Go Go.RowKit
set_option linter.unusedVariables false

theorem cut300 {ao : Option Addr} {c : Nat} {b : List UInt8} (h : 300 < (b.length : Int)) : some (Value.slice (cutAo ao c 0 1) 300 c) = some (.slice ao (b.take 300).length c) := by
  rw [cutAo_zero, List.length_take, Nat.min_eq_left (by omega)]
theorem nocut300 {ao : Option Addr} {c : Nat} {b : List UInt8} (h : ¬ 300 < (b.length : Int)) : some (Value.slice ao b.length c) = some (.slice ao (b.take 300).length c) := by
  rw [List.take_of_length_le (by omega)]

set_option maxHeartbeats 1000000 in
theorem inodeTakes_ok (b0 : List UInt8) (ao0 : Option Addr) (c0 : Nat) (W : World) (hv0 : Vw b8 W.heap ao0 c0 b0) :
    Calls Try.prog 6 [.slice ao0 b0.length c0].toArray W (Ret fun v w' => v = .bool true ∧ Foot nob W w') := by
  obtain ⟨b, hb⟩ : ∃ b, b = b0.take 300 := ⟨_, rfl⟩
  have hbl : b.length ≤ 300 := by rw [hb, List.length_take]; omega
  have hv : Vw b8 W.heap ao0 c0 b := by rw [hb]; exact hv0.take 300
  have hle := hv0.le
  refine calls_of_sc 37 [(0, _)] Try.func6 rfl rfl rfl (enter_slots ⟨rfl, trivial⟩) ?_
  refine Sc.seq ?_
  refine Sc.region ?_
  refine Sl.calm (Cm.assign rfl) rfl ?_
  refine Sl.nil ?_
  refine At.go ?_
  refine Sc.seq ?_
  refine Sc.region ?_
  refine Sl.call fn20 rfl (shown09_ok W) rfl ?_
  rintro _ w2 ⟨rfl, hf2⟩
  refine Sl.calm (Cm.assign rfl) rfl ?_
  refine Sl.nil ?_
  refine At.weak [(0, _), (2, _), (3, _)] ⟨rfl, rfl, rfl, trivial⟩ ?_
  refine At.go ?_
  refine Sc.cut (β := Unit) (fun _u => [(0, .slice ao0 b.length c0), (3, .bool true)]) (fun _u w => w = w2) ?_ ?_
  ·
    refine Sc.seq ?_
    refine Sc.region ?_
    refine Sl.calm (Cm.move rfl) rfl ?_
    refine Sl.calm (Cm.len sl25 rfl) rfl ?_
    refine Sl.fork (Cm.gtr rfl rfl) rfl (fun h11 => ?_) (fun h11 => ?_)
    ·
      refine Sl.nil ?_
      refine At.weak [(0, _), (2, _), (3, _), (11, _)] ⟨rfl, rfl, rfl, rfl, trivial⟩ ?_
      refine At.go ?_
      refine Sc.cond_t rfl ?_
      refine Sc.region ?_
      refine Sl.calm (Cm.move rfl) rfl ?_
      refine Sl.calm (Cm.sliceH sl25 rfl rfl (by omega)) rfl ?_
      refine Sl.calm (Cm.assign rfl) rfl ?_
      refine Sl.nil ?_
      refine At.cut () ⟨by rw [hb]; exact cut300 (by omega), rfl, trivial⟩ rfl
    ·
      refine Sl.nil ?_
      refine At.weak [(0, _), (2, _), (3, _), (11, _)] ⟨rfl, rfl, rfl, rfl, trivial⟩ ?_
      refine At.go ?_
      refine Sc.cond_f rfl ?_
      refine Sc.skip ?_
      refine At.cut () ⟨by rw [hb]; exact nocut300 (by omega), rfl, trivial⟩ rfl
  ·
    rintro _ w2b rfl
    refine Sc.seq ?_
    refine Sc.region ?_
    refine Sl.lit0 b8 sl25 rfl ?_
    intro w3 ho3 hs3 hf3
    refine Sl.calm (Cm.move rfl) rfl ?_
    refine Sl.append b8_one sl25 rfl rfl ho3 ((hv.grow hf2).grow hf3) (by simp; omega) (by simp; unfold maxLen; omega) rfl ?_
    intro ao4 c4 w4 ho4 hf4 hr4 hn4
    rw [List.nil_append] at ho4 ⊢
    have hF4 : Foot nob W w4 := hf2.trans (hf3.trans_to hf4 (fr_at _).step)
    refine Sl.call fn25 rfl (take_ok b ao4 c4 w4 ho4.vw (by omega)) rfl ?_
    rintro _ w5 ⟨rfl, hf5⟩
    have hF5 := hF4.trans hf5
    refine Sl.calm (Cm.move rfl) rfl ?_
    refine Sl.calm (Cm.extract rfl rfl) rfl ?_
    refine Sl.calm (Cm.extract rfl rfl) rfl ?_
    refine Sl.allocC zc33 rfl ?_
    intro w6 hg6 hs6 hf6
    refine Sl.storeAll (vs := inoC (tkF b) (tkT b)) agg33 rfl rfl (by intro v hv; exact inoC_one _ _ v hv) hg6 rfl ?_
    intro w7 hg7 hs7 hf7
    have hF7 := (hF5.trans hf6).trans_to hf7 (fun k hk => .inr (by have h1 : k = w5.heap.size := hk; have := hF5.size; omega))
    refine Sl.calm (Cm.assign rfl) rfl ?_
    refine Sl.nil ?_
    refine At.weak [(0, _), (3, _), (4, _), (5, _)] ⟨rfl, rfl, rfl, rfl, trivial⟩ ?_
    refine At.go ?_
    refine Sc.seq ?_
    refine Sc.region ?_
    refine Sl.calm (Cm.move rfl) rfl ?_
    refine Sl.call fn26 rfl (rtake_ok b ao0 c0 w7 (hv.grow hF7) (by omega)) rfl ?_
    rintro _ w8 ⟨rfl, hf8⟩
    have hF8 := hF7.trans hf8
    have hg8 := hf8.obj hg7 id
    have hz7 := hf7.size
    have hz8 := hf8.size
    refine Sl.calm (Cm.move rfl) rfl ?_
    refine Sl.calm (Cm.extract rfl rfl) rfl ?_
    refine Sl.calm (Cm.extract rfl rfl) rfl ?_
    refine Sl.allocC zc33 rfl ?_
    intro w9 hg9 hs9 hf9
    refine Sl.storeAll (vs := inoC (tkF b) (tkT b)) agg33 rfl rfl (by intro v hv; exact inoC_one _ _ v hv) hg9 rfl ?_
    intro w10 hg10 hs10 hf10
    have hg10a := hf10.obj (hf9.obj hg8 id) (fun h => by have h : w5.heap.size = w8.heap.size := h; omega)
    have hF10 := (hF8.trans hf9).trans_to hf10 (fun k hk => .inr (by have h1 : k = w8.heap.size := hk; have := hF8.size; omega))
    refine Sl.calm (Cm.assign rfl) rfl ?_
    refine Sl.nil ?_
    refine At.weak [(0, _), (3, _), (4, _), (5, _), (6, _), (7, _)] ⟨rfl, rfl, rfl, rfl, rfl, rfl, trivial⟩ ?_
    refine At.go ?_
    refine Sc.seq ?_
    refine Sc.region ?_
    refine Sl.calm (Cm.move rfl) rfl ?_
    refine Sl.calm (Cm.move rfl) rfl ?_
    refine Sl.want rfl rfl (Cm.ldM (cs := inoC (tkF b) (tkT b)) agg33 rfl (fun j v hj => cellF hg10a hj)) rfl ?_
    refine Sl.want rfl rfl (Cm.ldM (cs := inoC (tkF b) (tkT b)) agg33 rfl (fun j v hj => cellF hg10 hj)) rfl ?_
    refine Sl.want rfl rfl (Cm.yes (Cm.eqlIno rfl rfl) ⟨fun _ _ => rfl, rfl⟩) rfl ?_
    refine Sl.calm (Cm.pick_t rfl rfl) rfl ?_
    refine Sl.calm (Cm.move rfl) rfl ?_
    refine Sl.want rfl rfl (Cm.move rfl) rfl ?_
    refine Sl.want rfl rfl (Cm.move rfl) rfl ?_
    refine Sl.want rfl rfl (Cm.yes (Cm.eql rfl rfl) rfl) rfl ?_
    refine Sl.calm (Cm.pick_t rfl rfl) rfl ?_
    refine Sl.calm (Cm.assign rfl) rfl ?_
    refine Sl.nil ?_
    refine At.weak [(0, _), (2, _), (3, _), (4, _), (5, _), (6, _), (7, _)] ⟨rfl, rfl, rfl, rfl, rfl, rfl, rfl, trivial⟩ ?_
    refine At.go ?_
    refine Sc.ret ?_
    refine At.ret1 rfl rfl ?_
    exact ⟨_, rfl, rfl, hF10⟩

theorem getD_dropLast {l : List UInt8} {i : Nat} (h : i + 1 < l.length) : (l.take (l.length - 1)).getD i 0 = l.getD i 0 := by
  rw [List.getD, List.getD, List.getElem?_take, if_pos (by omega)]
theorem getD_snoc {l : List UInt8} {i : Nat} {x : UInt8} (h : i < l.length) : (l ++ [x]).getD i 0 = l.getD i 0 := by
  rw [List.getD, List.getD, List.getElem?_append_left h]

set_option maxHeartbeats 1000000 in
theorem inodeBack_ok (F : Nat → Int) (T : List UInt8) (W : World) (hT : T.length ≤ maxLen) :
    Calls Try.prog 7 [.agg (inoC F T).toArray].toArray W (Ret fun v w' => v = .bool true ∧ Foot nob W w') := by
  refine calls_of_sc 85 [(0, _)] Try.func7 rfl rfl rfl (enter_slots ⟨rfl, trivial⟩) ?_
  refine Sc.seq ?_
  refine Sc.region ?_
  refine Sl.box rfl rfl ?_
  intro w1 hg1 hs1 hf1
  have hg1 : w1.heap[W.heap.size]? = some (.cells (inoC F T).toArray 33 (0, 0)) := hg1
  refine Sl.calm (Cm.assign rfl) rfl ?_
  refine Sl.nil ?_
  refine At.go ?_
  refine Sc.seq ?_
  refine Sc.region ?_
  refine Sl.call fn20 rfl (shown09_ok w1) rfl ?_
  rintro _ w2 ⟨rfl, hf2⟩
  have hp2 := hf2.obj hg1 id
  refine Sl.calm (Cm.assign rfl) rfl ?_
  refine Sl.nil ?_
  refine At.weak [(0, _), (1, _), (2, _), (3, _)] ⟨rfl, rfl, rfl, rfl, trivial⟩ ?_
  refine At.go ?_
  refine Sc.seq ?_
  refine Sc.region ?_
  refine Sl.calm (Cm.ldM (cs := inoC F T) agg33 rfl (fun j v hj => cellF hp2 hj)) rfl ?_
  refine Sl.call fn21 rfl (put_ok F T w2 hT) rfl ?_
  rintro _ w3 ⟨a3, c3, rfl, ho3, hfr3, hf3⟩
  have hp3 := hf3.obj hp2 id
  have hF3 := (hf1.trans hf2).trans hf3
  have hz3 := hF3.size
  have hz1 := hf1.size
  have hz13 := (hf2.trans hf3).size
  refine Sl.calm (Cm.move rfl) rfl ?_
  refine Sl.calm (Cm.extract rfl rfl) rfl ?_
  refine Sl.calm (Cm.extract rfl rfl) rfl ?_
  refine Sl.calm (Cm.assign rfl) rfl ?_
  refine Sl.calm (Cm.assign rfl) rfl ?_
  refine Sl.nil ?_
  refine At.weak [(0, _), (1, _), (2, _), (3, _), (4, _), (5, _)] ⟨rfl, rfl, rfl, rfl, rfl, rfl, trivial⟩ ?_
  refine At.go ?_
  refine Sc.seq ?_
  refine Sc.seq ?_
  refine Sc.region ?_
  refine Sl.calm (Cm.move rfl) rfl ?_
  refine Sl.fork (Cm.neq rfl rfl) rfl (fun h19 => ?_) (fun h19 => ?_)
  ·
    have hno : ¬ mayI F T := fun h => h19 (putI_may.2 h)
    refine Sl.calm (Cm.move rfl) rfl ?_
    refine Sl.skip rfl rfl rfl rfl ?_
    refine Sl.skip rfl rfl rfl rfl ?_
    refine Sl.skip rfl rfl rfl rfl ?_
    refine Sl.calm (Cm.pick_t rfl rfl) rfl ?_
    refine Sl.nil ?_
    refine At.weak [(0, _), (1, _), (2, _), (3, _), (4, _), (5, _), (24, _)] ⟨rfl, rfl, rfl, rfl, rfl, rfl, rfl, trivial⟩ ?_
    refine At.go ?_
    refine Sc.cond_t rfl ?_
    refine Sc.seq ?_
    refine Sc.region ?_
    refine Sl.calm (Cm.move rfl) rfl ?_
    refine Sl.calm (Cm.move rfl) rfl ?_
    refine Sl.want rfl rfl (Cm.move rfl) rfl ?_
    refine Sl.want rfl rfl (Cm.yes (Cm.eql rfl rfl) (by unfold putI; rw [if_neg hno])) rfl ?_
    refine Sl.calm (Cm.pick_t rfl rfl) rfl ?_
    refine Sl.calm (Cm.move rfl) rfl ?_
    refine Sl.want rfl rfl (Cm.move rfl) rfl ?_
    refine Sl.want rfl rfl (Cm.len sl25 rfl) rfl ?_
    refine Sl.want rfl rfl (Cm.yes (Cm.eql rfl rfl) (by unfold putI; rw [if_neg hno]; rfl)) rfl ?_
    refine Sl.calm (Cm.pick_t rfl rfl) rfl ?_
    refine Sl.calm (Cm.move rfl) rfl ?_
    refine Sl.want rfl rfl (Cm.ldM (cs := inoC F T) agg33 rfl (fun j v hj => cellF hp3 hj)) rfl ?_
    refine Sl.callWant rfl rfl fn23 rfl (may_ok F T w3 hT) rfl ?_
    rintro _ w4 ⟨rfl, hf4⟩
    refine Sl.want rfl rfl (Cm.yes (Cm.notB rfl) (decide_eq_false hno)) rfl ?_
    refine Sl.calm (Cm.pick_t rfl rfl) rfl ?_
    refine Sl.calm (Cm.assign rfl) rfl ?_
    refine Sl.nil ?_
    refine At.weak [(0, _), (1, _), (2, _), (3, _), (4, _), (5, _), (24, _)] ⟨rfl, rfl, rfl, rfl, rfl, rfl, rfl, trivial⟩ ?_
    refine At.go ?_
    refine Sc.ret ?_
    refine At.then_ret ?_
    refine At.ret1 rfl rfl ?_
    exact ⟨_, rfl, rfl, hF3.trans hf4⟩
  ·
    have hm := putI_may.1 (Decidable.not_not.1 h19)
    have hlen := rSt_len hm
    have e : (putI F T).1 = (rEnd F T).2 := putI_eq hm
    have hkind := may_kind hm
    have h9 := hm.1
    unfold mayA at h9
    have hl14 : 15 ≤ (rEnd F T).2.length ∧ (rEnd F T).2.length ≤ 300 := by split at hlen; omega; split at hlen; omega; omega
    obtain ⟨B, hB⟩ : ∃ B, B = (rEnd F T).2 := ⟨_, rfl⟩
    rw [← hB] at hl14
    rw [e, ← hB] at ho3 ⊢
    have hle3 := ho3.vw.le
    refine Sl.calm (Cm.move rfl) rfl ?_
    refine Sl.want rfl rfl (Cm.move rfl) rfl ?_
    refine Sl.want rfl rfl (Cm.len sl25 rfl) rfl ?_
    refine Sl.forkWant rfl rfl (Cm.eql rfl rfl) rfl (fun h23 => ?_) (fun h23 => ?_)
    ·
      exact absurd h23 (by omega)
    ·
      refine Sl.calm (Cm.pick_f rfl rfl) rfl ?_
      refine Sl.nil ?_
      refine At.weak [(0, _), (1, _), (2, _), (3, _), (4, _), (5, _), (24, _)] ⟨rfl, rfl, rfl, rfl, rfl, rfl, rfl, trivial⟩ ?_
      refine At.go ?_
      refine Sc.cond_f rfl ?_
      refine Sc.skip ?_
      refine At.go ?_
      refine Sc.seq ?_
      refine Sc.region ?_
      refine Sl.calm (Cm.move rfl) rfl ?_
      refine Sl.call fn25 rfl (take_ok B a3 c3 w3 ho3.vw (by omega)) rfl ?_
      rintro _ w5 ⟨rfl, hf5⟩
      have hF5 := hF3.trans hf5
      have hz5 := hf5.size
      have hp5 := hf5.obj hp3 id
      have ho5 := ho3.grow hf5
      refine Sl.calm (Cm.move rfl) rfl ?_
      refine Sl.calm (Cm.extract rfl rfl) rfl ?_
      refine Sl.calm (Cm.extract rfl rfl) rfl ?_
      refine Sl.allocC zc33 rfl ?_
      intro w6 hg6 hs6 hf6
      refine Sl.storeAll (vs := inoC (tkF B) (tkT B)) agg33 rfl rfl (by intro v hv; exact inoC_one _ _ v hv) hg6 rfl ?_
      intro w7 hg7 hs7 hf7
      have hf57 : Foot nob w5 w7 := hf6.trans_to hf7 (fun k hk => .inr (by have h1 : k = w5.heap.size := hk; omega))
      have hp7 := hf57.obj hp5 id
      have ho7 := ho5.grow hf57
      have hF7 := hF5.trans hf57
      have hz7 := hf7.size
      have hz57 := hf57.size
      refine Sl.calm (Cm.assign rfl) rfl ?_
      refine Sl.nil ?_
      refine At.weak [(0, _), (1, _), (2, _), (3, _), (4, _), (5, _), (6, _), (7, _), (24, _)] ⟨rfl, rfl, rfl, rfl, rfl, rfl, rfl, rfl, rfl, trivial⟩ ?_
      refine At.go ?_
      refine Sc.seq ?_
      refine Sc.region ?_
      refine Sl.calm (Cm.move rfl) rfl ?_
      refine Sl.calm (Cm.move rfl) rfl ?_
      refine Sl.calm (Cm.len sl25 rfl) rfl ?_
      refine Sl.calm (Cm.sub64 rfl rfl (by omega)) rfl ?_
      refine Sl.calm (Cm.sliceH sl25 rfl rfl (by omega)) rfl ?_
      have hcv := ho7.vw.take (B.length - 1)
      have hcl : (B.take (B.length - 1)).length = B.length - 1 := by rw [List.length_take]; omega
      refine Sl.call fn25 rfl (by rw [cutAo_zero, show ((B.length : Int) - 1).toNat = (B.take (B.length - 1)).length by rw [hcl]; omega]; exact take_ok (B.take (B.length - 1)) a3 c3 w7 hcv (by omega)) rfl ?_
      rintro _ w8 ⟨rfl, hf8⟩
      have hno8 : ¬ TkOk (B.take (B.length - 1)) := take_other hm (by rw [hcl, ← hB]; omega) (by rw [← hB]; exact getD_dropLast (by omega)) (fun _ => by rw [← hB]; exact getD_dropLast (by omega))
      have e8 := (tk_no hno8).2.2
      have hF8 := hF7.trans hf8
      have hp8 := hf8.obj hp7 id
      have hg8 := hf8.obj hg7 id
      have ho8 := ho7.grow hf8
      have hz8 := hf8.size
      refine Sl.calm (Cm.move rfl) rfl ?_
      refine Sl.calm (Cm.extract rfl rfl) rfl ?_
      refine Sl.calm (Cm.extract rfl rfl) rfl ?_
      refine Sl.allocC zc33 rfl ?_
      intro w9 hg9 hs9 hf9
      refine Sl.storeAll (vs := inoC (tkF (B.take (B.length - 1))) (tkT (B.take (B.length - 1)))) agg33 rfl rfl (by intro v hv; exact inoC_one _ _ v hv) hg9 rfl ?_
      intro w10 hg10 hs10 hf10
      have hf810 : Foot nob w8 w10 := hf9.trans_to hf10 (fun k hk => .inr (by have h1 : k = w8.heap.size := hk; omega))
      have hp10 := hf810.obj hp8 id
      have hg10 := hf810.obj hg8 id
      have ho10 := ho8.grow hf810
      have hF10 := hF8.trans hf810
      have hz10 := hf810.size
      refine Sl.calm (Cm.assign rfl) rfl ?_
      refine Sl.nil ?_
      refine At.weak [(0, _), (1, _), (2, _), (3, _), (4, _), (5, _), (6, _), (7, _), (9, _), (24, _)] ⟨rfl, rfl, rfl, rfl, rfl, rfl, rfl, rfl, rfl, rfl, trivial⟩ ?_
      refine At.go ?_
      refine Sc.seq ?_
      refine Sc.region ?_
      refine Sl.lit0 b8 sl25 rfl ?_
      intro w11 ho11 hs11 hf11
      have hz11 := hf11.size
      refine Sl.calm (Cm.move rfl) rfl ?_
      refine Sl.append b8_one sl25 rfl rfl ho11 (ho10.grow hf11).vw (by simp; omega) (by simp; unfold maxLen; omega) rfl ?_
      intro a12 c12 w12 ho12 hf12 hr12 hn12
      rw [List.nil_append] at ho12 ⊢
      have hf1012 : Foot nob w10 w12 := hf11.trans_to hf12 (fr_at _).step
      have hfr12 : Fr w10.heap.size a12 := fr_next (fr_at _) hr12 hf11.size
      refine Sl.lit1 (enc := b8) (u := (0 : UInt8)) sl25 rfl rfl rfl ?_
      intro w13 ho13 hs13 hf13
      refine Sl.append b8_one sl25 rfl rfl (ho12.grow hf13) ho13.vw (by simp; omega) (by simp; unfold maxLen; omega) rfl ?_
      intro a14 c14 w14 ho14 hf14 hr14 hn14
      have hf1014 : Foot nob w10 w14 := (hf1012.trans hf13).trans_to hf14 hfr12.step
      have hF14 := hF10.trans hf1014
      refine Sl.call fn25 rfl (take_ok (B ++ [0]) a14 c14 w14 ho14.vw (by simp; omega)) rfl ?_
      rintro _ w15 ⟨rfl, hf15⟩
      have hno15 : ¬ TkOk (B ++ [0]) := take_other hm (by rw [List.length_append, ← hB]; simp) (by rw [← hB]; exact getD_snoc (by omega)) (fun _ => by rw [← hB]; exact getD_snoc (by omega))
      have e15 := (tk_no hno15).2.2
      have hF15 := hF14.trans hf15
      have hp15 := hf15.obj (hf1014.obj hp10 id) id
      have hg15 := hf15.obj (hf1014.obj hg10 id) id
      have hz15 := hF15.size
      have hz1015 := (hf1014.trans hf15).size
      refine Sl.calm (Cm.move rfl) rfl ?_
      refine Sl.calm (Cm.extract rfl rfl) rfl ?_
      refine Sl.calm (Cm.extract rfl rfl) rfl ?_
      refine Sl.allocC zc33 rfl ?_
      intro w16 hg16 hs16 hf16
      refine Sl.storeAll (vs := inoC (tkF (B ++ [0])) (tkT (B ++ [0]))) agg33 rfl rfl (by intro v hv; exact inoC_one _ _ v hv) hg16 rfl ?_
      intro w17 hg17 hs17 hf17
      have hf1517 : Foot nob w15 w17 := hf16.trans_to hf17 (fun k hk => .inr (by have h1 : k = w15.heap.size := hk; omega))
      have hp17 := hf1517.obj hp15 id
      have hg17 := hf1517.obj hg15 id
      have hF17 := hF15.trans hf1517
      have htk := take_put hm
      rw [← hB] at htk
      obtain ⟨eF, eT, eE⟩ := tk_yes htk.1
      rw [← eF, ← eT] at htk
      refine Sl.calm (Cm.assign rfl) rfl ?_
      refine Sl.nil ?_
      refine At.weak [(0, _), (1, _), (2, _), (3, _), (4, _), (5, _), (6, _), (7, _), (9, _), (11, _), (24, _)] ⟨rfl, rfl, rfl, rfl, rfl, rfl, rfl, rfl, rfl, rfl, rfl, trivial⟩ ?_
      refine At.go ?_
      refine Sc.seq ?_
      refine Sc.region ?_
      refine Sl.calm (Cm.move rfl) rfl ?_
      refine Sl.calm (Cm.move rfl) rfl ?_
      refine Sl.want rfl rfl (Cm.ldM (cs := inoC F T) agg33 rfl (fun j v hj => cellF hp17 hj)) rfl ?_
      refine Sl.callWant rfl rfl fn23 rfl (may_ok F T w17 hT) rfl ?_
      rintro _ w18 ⟨rfl, hf18⟩
      rw [decide_eq_true hm]
      refine Sl.calm (Cm.pick_t rfl rfl) rfl ?_
      refine Sl.calm (Cm.move rfl) rfl ?_
      refine Sl.want rfl rfl (Cm.ldM (cs := inoC (tkF B) (tkT B)) agg33 rfl (fun j v hj => cellF (hf18.obj hg17 id) hj)) rfl ?_
      refine Sl.want rfl rfl (Cm.ldM (cs := inoC F T) agg33 rfl (fun j v hj => cellF (hf18.obj hp17 id) hj)) rfl ?_
      refine Sl.want rfl rfl (Cm.yes (Cm.eqlIno rfl rfl) htk.2) rfl ?_
      refine Sl.calm (Cm.pick_t rfl rfl) rfl ?_
      refine Sl.calm (Cm.move rfl) rfl ?_
      refine Sl.want rfl rfl (Cm.move rfl) rfl ?_
      refine Sl.want rfl rfl (Cm.yes (Cm.eql rfl rfl) (by rw [eE])) rfl ?_
      refine Sl.calm (Cm.pick_t rfl rfl) rfl ?_
      refine Sl.calm (Cm.move rfl) rfl ?_
      refine Sl.want rfl rfl (Cm.move rfl) rfl ?_
      refine Sl.want rfl rfl (Cm.yes (Cm.eql rfl rfl) (by rw [e8])) rfl ?_
      refine Sl.calm (Cm.pick_t rfl rfl) rfl ?_
      refine Sl.calm (Cm.move rfl) rfl ?_
      refine Sl.want rfl rfl (Cm.move rfl) rfl ?_
      refine Sl.want rfl rfl (Cm.yes (Cm.eql rfl rfl) (by rw [e15])) rfl ?_
      refine Sl.calm (Cm.pick_t rfl rfl) rfl ?_
      refine Sl.calm (Cm.assign rfl) rfl ?_
      refine Sl.nil ?_
      refine At.weak [(0, _), (1, _), (2, _), (3, _), (4, _), (5, _), (6, _), (7, _), (9, _), (11, _), (24, _)] ⟨rfl, rfl, rfl, rfl, rfl, rfl, rfl, rfl, rfl, rfl, rfl, trivial⟩ ?_
      refine At.go ?_
      refine Sc.ret ?_
      refine At.ret1 rfl rfl ?_
      exact ⟨_, rfl, rfl, hF17.trans hf18⟩
end Go.Proofs.Ytoaplldahbbaiaa
