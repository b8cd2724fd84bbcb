/- inode: what is taken out of bytes: the plain law. No condition beyond the bounds that each states. -/
import Derived.Test.YtoaplldahbbaiaaKE
import Derived.Test.YtoaplldahbbaiaaCrk
import Derived.Test.YtoaplldahbbaiaaGbk
namespace Go.Proofs.Ytoaplldahbbaiaa
open Go Go.RowKit
set_option linter.unusedVariables false

abbrev Rd := Int × List UInt8
def gS (n : Int) (s : Rd) : Rd := (cutE (numE1 s.1 n) s.2 n, cutR (numE1 s.1 n) s.2 n)
def gV (n : Int) (s : Rd) : Int := valB (cutB (numE1 s.1 n) s.2 n)
def gF (q : Rd × (Nat → Int)) (x : Fd) : Rd × (Nat → Int) := (gS x.b q.1, upd q.2 x.o (gV x.b q.1))
def gK (b : List UInt8) : Int := gV 1 (0, b)
def g0 (b : List UInt8) : Rd × (Nat → Int) := (gS 1 (0, b), upd (fun _ => 0) 0 (gK b))
def gSt (b : List UInt8) (k : Nat) : Rd × (Nat → Int) := ((recL (gK b)).take k).foldl gF (g0 b)
def gR (b : List UInt8) : Rd × (Nat → Int) := (recL (gK b)).foldl gF (g0 b)
def gTxS (s : Rd) : Rd := (cutE (tE s.1 s.2) (tR s.1 s.2) (tN s.1 s.2), cutR (tE s.1 s.2) (tR s.1 s.2) (tN s.1 s.2))
def gTx (s : Rd) : List UInt8 := cutB (tE s.1 s.2) (tR s.1 s.2) (tN s.1 s.2)
def gEnd (b : List UInt8) : Rd := if gK b = 3 then gTxS (gR b).1 else (gR b).1
def gT (b : List UInt8) : List UInt8 := if gK b = 3 then gTx (gR b).1 else []
def gFn (b : List UInt8) : Nat → Int := (gR b).2
def TkOk (b : List UInt8) : Prop := endE (gEnd b).1 (gEnd b).2 = 0 ∧ mayI (gFn b) (gT b)
instance (b : List UInt8) : Decidable (TkOk b) := by unfold TkOk; exact inferInstance
def tkF (b : List UInt8) : Nat → Int := if TkOk b then gFn b else fun _ => 0
def tkT (b : List UInt8) : List UInt8 := if TkOk b then gT b else []
def tkE (b : List UInt8) : Int := if TkOk b then 0 else 2

theorem g_good {n : Int} {s : Rd} (h1 : 1 ≤ n) (h4 : n ≤ 4) (h0 : s.1 = 0) (hl : n ≤ s.2.length) : gS n s = (0, s.2.drop n.toNat) ∧ gV n s = valB (s.2.take n.toNat) := by
  have e : cutE 0 s.2 n = 0 := by rw [cutE_good (by omega) (by omega)]
  unfold gS gV
  rw [numE1_good h1 h4, h0, e]
  obtain ⟨a, b⟩ := cutB_good e
  rw [a, b]; exact ⟨rfl, rfl⟩
theorem g_short {n : Int} {s : Rd} (h1 : 1 ≤ n) (h4 : n ≤ 4) (h0 : s.1 = 0) (hl : (s.2.length : Int) < n) : (gS n s).1 ≠ 0 := by
  unfold gS
  rw [numE1_good h1 h4, h0, cutE_short (by omega) hl, if_pos rfl]; exact (by decide : (2 : Int) ≠ 0)
theorem g_err {n : Int} {s : Rd} (h : s.1 ≠ 0) : (gS n s).1 ≠ 0 := by
  have : numE1 s.1 n = s.1 := by unfold numE1; rw [if_pos h]
  unfold gS
  rw [this, cutE_same h]; exact h
theorem gV_non (n : Int) (s : Rd) : 0 ≤ gV n s := Int.natCast_nonneg _

def encL (F : Nat → Int) (L : List Fd) : List UInt8 := L.flatMap (fun x => le (F x.o) x.b.toNat)
def sumL (L : List Fd) : Nat := (L.map (fun x => x.b.toNat)).sum
theorem encL_len (F : Nat → Int) : ∀ L : List Fd, (encL F L).length = sumL L
  | [] => rfl
  | x :: r => by have := encL_len F r; simp only [encL, sumL] at this ⊢; simp [le_length, this]
theorem encL_congr {F G : Nat → Int} {L : List Fd} (h : ∀ x ∈ L, F x.o = G x.o) : encL F L = encL G L := by
  induction L with
  | nil => rfl
  | cons x r ih =>
    have h1 := ih (fun y hy => h y (by simp [hy]))
    have h2 := h x (by simp)
    simp only [encL, List.flatMap_cons] at h1 ⊢
    rw [h2, h1]
theorem le_valT {ys : List UInt8} {n : Nat} (h : n ≤ ys.length) : le (valB (ys.take n)) n = ys.take n := by
  have := le_valB (ys.take n)
  rwa [List.length_take, Nat.min_eq_left h] at this

theorem gF_fold : ∀ (L : List Fd) (q : Rd × (Nat → Int)), (∀ x ∈ L, 1 ≤ x.b ∧ x.b ≤ 4) → (L.map (·.o)).Nodup →
    (∀ o, o ∉ L.map (·.o) → (L.foldl gF q).2 o = q.2 o) ∧ (q.1.1 ≠ 0 → (L.foldl gF q).1.1 ≠ 0) ∧
    ((L.foldl gF q).1.1 = 0 → q.1.2 = encL (L.foldl gF q).2 L ++ (L.foldl gF q).1.2) ∧ (q.1.1 = 0 → (L.foldl gF q).1.1 ≠ 0 → q.1.2.length < sumL L)
  | [], q, _, _ => ⟨fun _ _ => rfl, id, fun _ => rfl, fun h0 h => absurd h0 h⟩
  | x :: r, q, hb, hn => by
    rw [List.map_cons, List.nodup_cons] at hn
    obtain ⟨i1, i2, i3, i4⟩ := gF_fold r (gF q x) (fun y hy => hb y (by simp [hy])) hn.2
    obtain ⟨b1, b4⟩ := hb x (by simp)
    have eo : ((x :: r).foldl gF q) = r.foldl gF (gF q x) := rfl
    rw [eo]
    obtain ⟨R, hR⟩ : ∃ R, R = r.foldl gF (gF q x) := ⟨_, rfl⟩
    rw [← hR] at i1 i2 i3 i4 ⊢
    have hx : R.2 x.o = gV x.b q.1 := by rw [i1 x.o hn.1]; show upd _ _ _ _ = _; simp [upd]
    have he : encL R.2 (x :: r) = le (R.2 x.o) x.b.toNat ++ encL R.2 r := by simp [encL]
    have hs : sumL (x :: r) = x.b.toNat + sumL r := by simp [sumL]
    refine ⟨fun o ho => ?_, fun h => i2 (g_err h), fun h => ?_, fun h0 h => ?_⟩
    · rw [List.map_cons, List.mem_cons, not_or] at ho
      rw [i1 o ho.2]
      show upd _ _ _ _ = _
      simp [upd, ho.1]
    · have hq0 : q.1.1 = 0 := Classical.byContradiction fun h' => i2 (g_err h') h
      have hl : x.b ≤ q.1.2.length := Classical.byContradiction fun h' => i2 (g_short b1 b4 hq0 (by omega)) h
      obtain ⟨g1, g2⟩ := g_good b1 b4 hq0 hl
      have h3 := i3 h
      have h4 : (gF q x).1.2 = q.1.2.drop x.b.toNat := by show (gS x.b q.1).2 = _; rw [g1]
      rw [h4] at h3
      rw [he, hx, g2, le_valT (by omega), List.append_assoc, ← h3, List.take_append_drop]
    · rw [hs]
      by_cases hl : x.b ≤ q.1.2.length
      · obtain ⟨g1, g2⟩ := g_good b1 b4 h0 hl
        have h5 : (gF q x).1 = (0, q.1.2.drop x.b.toNat) := g1
        have := i4 (by rw [h5]) h
        rw [h5] at this
        simp only [List.length_drop] at this
        omega
      · omega

theorem recL_nodup (k : Int) : ((recL k).map (·.o)).Nodup := by
  unfold recL fldL
  split
  · decide
  · split <;> decide
theorem recL_b (k : Int) : ∀ x ∈ recL k, 1 ≤ x.b ∧ x.b ≤ 4 := fun x hx => by have := recL_off hx; exact ⟨this.2.1, this.2.2.1⟩
theorem recL_no0 (k : Int) : 0 ∉ (recL k).map (·.o) := by
  unfold recL fldL
  split
  · decide
  · split <;> decide
theorem gFn_0 (b : List UInt8) : gFn b 0 = gK b := by
  have := (gF_fold (recL (gK b)) (g0 b) (recL_b _) (recL_nodup _)).1 0 (recL_no0 _)
  unfold gFn gR
  rw [this]; simp [g0, upd]

theorem rSt_cat {F : Nat → Int} {T : List UInt8} (h : mayI F T) : ∀ k, k ≤ (recL (F 0)).length → (rSt F k).2 = le (F 0) 1 ++ encL F ((recL (F 0)).take k)
  | 0, _ => by
    have hk := may_kind h
    obtain ⟨a, b⟩ := putNum_good (s := (0, [])) (z := F 0) (n := 1) rfl (fit_good (m := 3) (by decide) (by decide) (by omega) (by omega) (by decide))
    show (putNum 1 (0, []) (F 0)).2 = _
    rw [b]; simp [encL]
  | k + 1, hk => by
    have h1 := (rSt_good h k (by omega)).1
    have h2 := rSt_cat h k (by omega)
    have hm := recL_at (k := F 0) (i := k) (by omega)
    obtain ⟨_, b1, b4, m0, mb⟩ := recL_off hm
    have ho := rec_may h _ hm
    obtain ⟨a, b⟩ := putNum_good (s := rSt F k) (z := F ((recL (F 0)).getD k fd0).o) (n := ((recL (F 0)).getD k fd0).b) h1 (fit_good b1 b4 ho.1 ho.2 mb)
    rw [rSt_succ F k (by omega)]
    show (putNum _ _ _).2 = _
    rw [b, fd_off (by omega), h2]
    simp [encL]
theorem rEnd_cat {F : Nat → Int} {T : List UInt8} (h : mayI F T) : (rEnd F T).2 = le (F 0) 1 ++ encL F (recL (F 0)) ++ (if F 0 = 3 then UInt8.ofNat T.length :: T else []) := by
  have h1 := (rSt_good h _ (Nat.le_refl _)).1
  have h2 := rSt_cat h _ (Nat.le_refl _)
  rw [List.take_length] at h2
  unfold rEnd
  by_cases h3 : F 0 = 3
  · rw [if_pos h3, if_pos h3, ← h2]
    have h9 := h.1
    unfold mayA at h9
    show txtX _ _ _ = _
    unfold txtX
    rw [if_neg (by omega)]
  · rw [if_neg h3, if_neg h3, List.append_nil, h2]

theorem g_first {b : List UInt8} (h : gK b ≠ 0) : ∃ c r, b = c :: r ∧ gK b = c.toNat ∧ g0 b = ((0, r), upd (fun _ => 0) 0 (gK b)) := by
  cases b with
  | nil => exact absurd rfl h
  | cons c r =>
    obtain ⟨g1, g2⟩ := g_good (n := 1) (s := (0, c :: r)) (by decide) (by decide) rfl (by simp; omega)
    refine ⟨c, r, rfl, ?_, ?_⟩
    · unfold gK; rw [g2]; simp [valB]
    · unfold g0; rw [g1]; rfl
theorem endE_zero {E : Int} {ys : List UInt8} : endE E ys = 0 ↔ E = 0 ∧ ys = [] := by
  unfold endE
  by_cases hE : E = 0
  · by_cases hy : 0 < ys.length
    · have : ys ≠ [] := fun e => by rw [e] at hy; cases hy
      simp [hE, hy, this]
    · have : ys = [] := List.eq_nil_of_length_eq_zero (by omega)
      simp [hE, this]
  · simp [hE]

theorem take_iff {b : List UInt8} (h : mayI (gFn b) (gT b)) : endE (gEnd b).1 (gEnd b).2 = 0 ↔ (rEnd (gFn b) (gT b)).2 = b := by
  have hk := may_kind h
  rw [gFn_0] at hk
  obtain ⟨c, r, hb, hc, h0⟩ := g_first (b := b) (by omega)
  obtain ⟨_, i2, i3, i4⟩ := gF_fold (recL (gK b)) (g0 b) (recL_b _) (recL_nodup _)
  rw [← gR, h0] at i2 i3 i4
  simp only [ne_eq] at i3 i4
  clear i2
  have hcat := rEnd_cat h
  rw [gFn_0, hc, le_one, UInt8.ofNat_toNat, ← hc] at hcat
  have hmay := h.1
  unfold mayA at hmay
  rw [gFn_0] at hmay
  rw [hcat, endE_zero]
  have hgF : gFn b = (gR b).2 := rfl
  rw [hgF]
  obtain ⟨s, hs⟩ : ∃ s, s = (gR b).1 := ⟨_, rfl⟩
  obtain ⟨E, hE⟩ : ∃ E, E = encL (gR b).2 (recL (gK b)) := ⟨_, rfl⟩
  have hEl : E.length = sumL (recL (gK b)) := by rw [hE, encL_len]
  rw [← hs, ← hE] at i3
  rw [← hs, ← hEl] at i4
  rw [← hE]
  by_cases h3 : gK b = 3
  · have hT : 0 < (gT b).length := by omega
    have eT : gT b = gTx s := by unfold gT; rw [if_pos h3, hs]
    have eE : gEnd b = gTxS s := by unfold gEnd; rw [if_pos h3, hs]
    rw [if_pos h3]
    have hn : numE1 s.1 1 = s.1 := numE1_good (by decide) (by decide) _
    have hz : cutE (tE s.1 s.2) (tR s.1 s.2) (tN s.1 s.2) = 0 := Classical.byContradiction fun hne => by
      rw [eT] at hT; unfold gTx at hT; rw [(cutB_bad hne).1] at hT; cases hT
    obtain ⟨z1, z2, z3⟩ := cutE_zero hz
    have z4 : cutE s.1 s.2 1 = 0 := by have := z1; unfold tE at this; rwa [hn] at this
    obtain ⟨y1, y2, y3⟩ := cutE_zero z4
    have e3 := i3 y1
    obtain ⟨d, t, hd⟩ : ∃ d t, s.2 = d :: t := by
      cases hs2 : s.2 with
      | nil => rw [hs2] at y3; simp at y3
      | cons d t => exact ⟨d, t, rfl⟩
    obtain ⟨c1, c2⟩ := cutB_good z4
    have etR : tR s.1 s.2 = t := by unfold tR; rw [hn, c2, hd]; rfl
    have etN : tN s.1 s.2 = d.toNat := by unfold tN; rw [hn, c1, hd]; simp [valB]
    obtain ⟨c3, c4⟩ := cutB_good hz
    rw [etR, etN] at c3 c4
    rw [etN, etR] at z3
    have eT2 : gT b = t.take d.toNat := by rw [eT]; unfold gTx; rw [etR, etN, c3]; rfl
    have eE2 : gEnd b = (0, t.drop d.toNat) := by rw [eE]; unfold gTxS; rw [hz, etR, etN, c4]; rfl
    have el : (gT b).length = d.toNat := by rw [eT2, List.length_take]; omega
    rw [eE2, el, UInt8.ofNat_toNat, eT2, hb, e3, hd]
    simp only [true_and]
    have el2 : (List.take d.toNat t).length = d.toNat := by rw [← eT2]; exact el
    constructor
    · intro h
      have : t.take d.toNat = t := by have := List.take_append_drop d.toNat t; rw [h, List.append_nil] at this; exact this
      rw [this]; simp
    · intro h
      have h5 : t.take d.toNat = t := by simpa using h
      rw [← h5]; simp
  · rw [if_neg h3, List.append_nil]
    have eE : gEnd b = s := by unfold gEnd; rw [if_neg h3, hs]
    rw [eE]
    by_cases hs0 : s.1 = 0
    · have e3 := i3 hs0
      have : ([c] ++ E = b) ↔ (E = r) := by rw [hb]; simp
      rw [this]
      constructor
      · rintro ⟨_, h2⟩; rw [e3, h2, List.append_nil]
      · intro h2; refine ⟨hs0, ?_⟩; rw [h2] at e3; simpa using e3
    · have h4 := i4 trivial hs0
      constructor
      · rintro ⟨h5, _⟩; exact absurd h5 hs0
      · intro h5
        have := congrArg List.length h5
        rw [List.length_append, hb] at this
        simp at this
        omega

/-! put, then taken -/
theorem pow_le {b : Int} (h : 0 ≤ b) : (2 : Int) ^ (8 * b).toNat = 256 ^ b.toNat := by
  rw [show (8 * b).toNat = 8 * b.toNat by omega, Int.pow_mul]; rfl
theorem gF_fwd (F : Nat → Int) : ∀ (L : List Fd) (G : Nat → Int) (rest : List UInt8), (∀ x ∈ L, 1 ≤ x.b ∧ x.b ≤ 4 ∧ 0 ≤ F x.o ∧ F x.o < 256 ^ x.b.toNat) →
    (L.foldl gF ((0, encL F L ++ rest), G)) = ((0, rest), L.foldl (fun g x => upd g x.o (F x.o)) G)
  | [], G, rest, _ => rfl
  | x :: r, G, rest, h => by
    obtain ⟨b1, b4, f0, f1⟩ := h x (by simp)
    have e : encL F (x :: r) = le (F x.o) x.b.toNat ++ encL F r := by simp [encL]
    rw [e, List.append_assoc, List.foldl_cons]
    obtain ⟨g1, g2⟩ := g_good (n := x.b) (s := (0, le (F x.o) x.b.toNat ++ (encL F r ++ rest))) b1 b4 rfl (by simp [le_length]; omega)
    have e2 : gF ((0, le (F x.o) x.b.toNat ++ (encL F r ++ rest)), G) x = ((0, encL F r ++ rest), upd G x.o (F x.o)) := by
      unfold gF
      rw [g1, g2]
      simp only
      rw [List.drop_left' (le_length _ _), List.take_left' (le_length _ _), valB_le _ _ f0 f1]
    rw [e2, gF_fwd F r _ rest (fun y hy => h y (by simp [hy]))]
    rfl
theorem upd_fold (F : Nat → Int) : ∀ (L M : List Fd), L.foldl (fun g x => upd g x.o (F x.o)) (upd (knownG F M) 0 (F 0)) = upd (knownG F (M ++ L)) 0 (F 0)
  | [], M => by simp
  | x :: r, M => by
    rw [List.foldl_cons]
    have e : upd (upd (knownG F M) 0 (F 0)) x.o (F x.o) = upd (knownG F (M ++ [x])) 0 (F 0) := by
      rw [← knownG_snoc]
      funext q
      unfold upd
      by_cases h1 : q = x.o
      · by_cases h2 : q = 0
        · rw [if_pos h1, if_pos h2, ← h1, h2]
        · rw [if_pos h1, if_neg h2, if_pos h1]
      · rw [if_neg h1]
        by_cases h2 : q = 0
        · rw [if_pos h2, if_pos h2]
        · rw [if_neg h2, if_neg h2, if_neg h1]
    rw [e, upd_fold F r (M ++ [x]), List.append_assoc]; rfl

theorem take_put {F : Nat → Int} {T : List UInt8} (h : mayI F T) : TkOk (rEnd F T).2 ∧ sameI (gFn (rEnd F T).2) (gT (rEnd F T).2) F T := by
  have hk := may_kind h
  have h9 := h.1
  unfold mayA at h9
  have hcat := rEnd_cat h
  obtain ⟨b, hb⟩ : ∃ b, b = (rEnd F T).2 := ⟨_, rfl⟩
  obtain ⟨rest, hrest⟩ : ∃ r, r = (if F 0 = 3 then UInt8.ofNat T.length :: T else []) := ⟨_, rfl⟩
  rw [← hb, ← hrest] at hcat
  rw [← hb]
  have e0 : le (F 0) 1 = [UInt8.ofNat (F 0).toNat] := by have := le_one (F 0).toNat; rwa [show (((F 0).toNat : Nat) : Int) = F 0 by omega] at this
  have hb2 : b = UInt8.ofNat (F 0).toNat :: (encL F (recL (F 0)) ++ rest) := by rw [hcat, e0]; simp
  have hlt : (UInt8.ofNat (F 0).toNat).toNat = (F 0).toNat := by rw [UInt8.toNat_ofNat']; omega
  have hK : gK b = F 0 := by
    unfold gK
    rw [(g_good (n := 1) (s := (0, b)) (by decide) (by decide) rfl (by rw [hb2]; simp; omega)).2, hb2]
    simp [valB]; omega
  obtain ⟨c, r, hb3, hc, h0⟩ := g_first (b := b) (by omega)
  have er : r = encL F (recL (F 0)) ++ rest := by rw [hb2] at hb3; simp at hb3; exact hb3.2.symm
  have hR : gR b = ((0, rest), upd (knownG F (recL (F 0))) 0 (F 0)) := by
    unfold gR
    rw [h0, er, hK, gF_fwd F _ _ _ (fun x hx => by
      obtain ⟨_, b1, b4, m0, mb⟩ := recL_off hx
      have := rec_may h x hx
      unfold okF at this
      rw [pow_le (by omega)] at mb
      exact ⟨b1, b4, this.1, by omega⟩)]
    have := upd_fold F (recL (F 0)) []
    rw [knownG_nil, List.nil_append] at this
    rw [this]
  have hsame : ∀ U, U = T → sameI (gFn b) U F T := fun U hU => by
    unfold gFn
    rw [hR]
    refine (known_same F U T).2 ⟨fun _ => by omega, fun _ _ => by omega, hU⟩
  have hfin : gEnd b = (0, []) ∧ gT b = T := by
    by_cases h3 : F 0 = 3
    · rw [if_pos h3] at hrest
      have hl : (UInt8.ofNat T.length).toNat = T.length := by rw [UInt8.toNat_ofNat']; omega
      have z4 : cutE 0 rest 1 = 0 := by rw [cutE_good (by decide) (by rw [hrest]; simp; omega)]
      obtain ⟨c1, c2⟩ := cutB_good z4
      have hn : numE1 0 1 = 0 := numE1_good (by decide) (by decide) _
      have etE : tE 0 rest = 0 := by unfold tE; rw [hn, z4]
      have etR : tR 0 rest = T := by unfold tR; rw [hn, c2, hrest]; rfl
      have etN : tN 0 rest = T.length := by unfold tN; rw [hn, c1, hrest]; simp [valB]; omega
      have z5 : cutE 0 T T.length = 0 := by rw [cutE_good (by omega) (by omega)]
      obtain ⟨c3, c4⟩ := cutB_good z5
      unfold gEnd gT gTxS gTx
      rw [hK, if_pos h3, if_pos h3, hR]
      simp only
      rw [etE, etR, etN, z5, c3, c4]
      simp
    · rw [if_neg h3] at hrest
      have : T = [] := List.eq_nil_of_length_eq_zero (by omega)
      unfold gEnd gT
      rw [hK, if_neg h3, if_neg h3, hR, hrest]
      exact ⟨rfl, this.symm⟩
  refine ⟨⟨by rw [hfin.1]; rfl, ?_⟩, by rw [hfin.2]; exact hsame T rfl⟩
  have hs := (hsame T rfl).1
  rw [hfin.2]
  have hc := h
  unfold mayI mayA at hc ⊢
  rw [hs 0 (by decide), hs 1 (by decide), hs 2 (by decide), hs 3 (by decide), hs 4 (by decide), hs 5 (by decide), hs 6 (by decide), hs 7 (by decide), hs 8 (by decide), hs 9 (by decide)]
  exact hc

theorem rEnd_at0 {F : Nat → Int} {T : List UInt8} (h : mayI F T) : ((rEnd F T).2.getD 0 0).toNat = (F 0).toNat := by
  have hk := may_kind h
  have e0 : le (F 0) 1 = [UInt8.ofNat (F 0).toNat] := by have := le_one (F 0).toNat; rwa [show (((F 0).toNat : Nat) : Int) = F 0 by omega] at this
  rw [rEnd_cat h, e0]
  simp
  omega
theorem rEnd_at13 {F : Nat → Int} {T : List UInt8} (h : mayI F T) (h3 : F 0 = 3) : ((rEnd F T).2.getD 13 0).toNat = T.length := by
  have h9 := h.1
  unfold mayA at h9
  rw [rEnd_cat h, if_pos h3]
  have hl : (le (F 0) 1 ++ encL F (recL (F 0))).length = 13 := by
    rw [List.length_append, le_length, encL_len]
    unfold recL fldL
    rw [if_neg (by omega), if_neg (by omega)]; rfl
  rw [List.getD, List.getElem?_append_right (by omega), hl]
  simp
  omega
/-- what has another length, but the same first bytes, is no record -/
theorem take_other {F : Nat → Int} {T : List UInt8} (h : mayI F T) {b : List UInt8} (hl : b.length ≠ (rEnd F T).2.length) (h0 : b.getD 0 0 = (rEnd F T).2.getD 0 0) (h13 : F 0 = 3 → b.getD 13 0 = (rEnd F T).2.getD 13 0) : ¬ TkOk b := by
  rintro ⟨hE, hm⟩
  have e := (take_iff hm).1 hE
  have k1 := may_kind h
  have k2 := may_kind hm
  have a1 := rEnd_at0 h
  have a2 := rEnd_at0 hm
  rw [e, h0, a1] at a2
  have l1 := rSt_len h
  have l2 := rSt_len hm
  rw [e] at l2
  have hk : F 0 = gFn b 0 := by omega
  rw [← hk] at l2
  by_cases h3 : F 0 = 3
  · have b1 := rEnd_at13 h h3
    have b2 := rEnd_at13 hm (by omega)
    rw [e, h13 h3, b1] at b2
    rw [if_neg (by omega), if_neg (by omega)] at l1 l2
    omega
  · by_cases h2 : F 0 = 2
    · rw [if_pos h2] at l1 l2; omega
    · rw [if_neg h2, if_pos (by omega)] at l1 l2; omega
end Go.Proofs.Ytoaplldahbbaiaa
/- inode: Take, the program's. No condition beyond the bounds that each states. -/
namespace Go.Proofs.Ytoaplldahbbaiaa
open Go Go.RowKit
set_option linter.unusedVariables false

def TkP (W : World) (b : List UInt8) : Value → World → Prop := fun v w' => v = .tuple #[.agg (inoC (tkF b) (tkT b)).toArray, .int .i64 (tkE b)] ∧ Foot nob W w'
theorem tk_yes {b : List UInt8} (h : TkOk b) : tkF b = gFn b ∧ tkT b = gT b ∧ tkE b = 0 := by unfold tkF tkT tkE; rw [if_pos h, if_pos h, if_pos h]; exact ⟨rfl, rfl, rfl⟩
theorem tk_no {b : List UInt8} (h : ¬ TkOk b) : tkF b = (fun _ => 0) ∧ tkT b = [] ∧ tkE b = 2 := by unfold tkF tkT tkE; rw [if_neg h, if_neg h, if_neg h]; exact ⟨rfl, rfl, rfl⟩
theorem gF_len (q : Rd × (Nat → Int)) (x : Fd) : (gF q x).1.2.length ≤ q.1.2.length := cutR_len _ _ _
theorem gSt_succ (b : List UInt8) (k : Nat) (h : k < (recL (gK b)).length) : gSt b (k + 1) = gF (gSt b k) ((recL (gK b)).getD k fd0) := by
  unfold gSt
  rw [fd_off h, List.foldl_append]; rfl
theorem gSt_len (b : List UInt8) : ∀ k, k ≤ (recL (gK b)).length → (gSt b k).1.2.length ≤ b.length
  | 0, _ => cutR_len _ _ _
  | k + 1, h => by rw [gSt_succ b k (by omega)]; exact Nat.le_trans (gF_len _ _) (gSt_len b k (by omega))
theorem gSt_end (b : List UInt8) : gSt b (recL (gK b)).length = gR b := by unfold gSt gR; rw [List.take_length]
theorem gSt_0 (b : List UInt8) : ∀ k, k ≤ (recL (gK b)).length → (gSt b k).2 0 = gK b
  | 0, _ => by show upd (fun _ => 0) 0 (gK b) 0 = _; simp [upd]
  | k + 1, h => by
    have hm := recL_at (k := gK b) (i := k) (by omega)
    have := (recL_off hm).1.2.2.1
    rw [gSt_succ b k (by omega)]
    show upd (gSt b k).2 _ _ 0 = _
    unfold upd
    rw [if_neg (by omega)]; exact gSt_0 b k (by omega)

theorem cutB_le (E : Int) (ys : List UInt8) (n : Int) : (cutB E ys n).length ≤ ys.length := by unfold cutB; split <;> simp; omega
theorem gT_len (b : List UInt8) : (gT b).length ≤ b.length := by
  unfold gT
  split
  · have h1 := gSt_len b _ (Nat.le_refl _)
    rw [gSt_end] at h1
    have h2 := tR_len (gR b).1.1 (gR b).1.2
    have h3 := cutB_le (tE (gR b).1.1 (gR b).1.2) (tR (gR b).1.1 (gR b).1.2) (tN (gR b).1.1 (gR b).1.2)
    unfold gTx; omega
  · simp

set_option maxHeartbeats 2000000 in
theorem take_ok (b : List UInt8) (ao0 : Option Addr) (c0 : Nat) (W : World) (hv : Vw b8 W.heap ao0 c0 b) (hb : b.length ≤ 1099511627776) :
    Calls Try.prog 25 [.slice ao0 b.length c0].toArray W (Ret (TkP W b)) := by
  refine calls_of_sc 48 [(0, _)] Try.func25 rfl rfl rfl (enter_slots ⟨rfl, trivial⟩) ?_
  refine Sc.seq ?_
  refine Sc.region ?_
  refine Sl.allocC zc33 rfl ?_
  intro w1 hg1 hs1 hf1
  have hg1 : w1.heap[W.heap.size]? = some (.cells (inoC (fun _ => 0) []).toArray 33 (0, 0)) := hg1
  refine Sl.calm (Cm.assign rfl) rfl ?_
  refine Sl.nil ?_
  refine At.go ?_
  refine Sc.seq ?_
  refine Sc.region ?_
  refine Sl.calm (Cm.move rfl) rfl ?_
  refine Sl.call fn54 rfl (rdnew_ok ao0 c0 b w1 (hv.grow hf1) (by omega)) rfl ?_
  rintro _ w2 ⟨p, rfl, hp1, hP2, hf2⟩
  have hlp := hP2.lt
  refine Sl.calm (Cm.assign rfl) rfl ?_
  refine Sl.nil ?_
  refine At.weak [(0, _), (2, _), (3, _), (4, _)] ⟨rfl, rfl, rfl, rfl, trivial⟩ ?_
  refine At.go ?_
  refine Sc.seq ?_
  refine Sc.region ?_
  refine Sl.calm (Cm.move rfl) rfl ?_
  refine Sl.call fn55 rfl (rdnum_ok p 0 b 1 w2 hP2 hb) rfl ?_
  rintro _ w3 ⟨rfl, hP3, hf3⟩
  have hP3 : RdL _ w3.heap p (g0 b).1.1 (g0 b).1.2 := hP3
  have hg3 := hf3.obj (hf2.obj hg1 id) (by omega)
  refine Sl.calm (Cm.build (cs := (inoC (g0 b).2 []).toArray) plc33 zc33 rfl (by kernel_rfl)) rfl ?_
  refine Sl.allocC zc33 rfl ?_
  intro w4 hg4 hs4 hf4
  refine Sl.storeAll (vs := inoC (g0 b).2 []) agg33 rfl rfl (by intro v hv; exact inoC_one _ _ v hv) hg4 rfl ?_
  intro w5 hg5 hs5 hf5
  have hz2 := hf2.size
  have hz3 := hf3.size
  have hF5 : Foot nob w3 w5 := hf4.trans_to hf5 (fun k hk => .inr (by have : k = w3.heap.size := hk; omega))
  have hP5 := hP3.grow hF5
  have hg5r := hF5.obj hg3 id
  have hz5 := hF5.size
  have hFW5 : Foot nob W w5 := (((hf1.trans hf2).any.trans hf3).fresh (fun k hk => by have : k = p := hk; omega)).trans hF5
  refine Sl.nil ?_
  refine At.weak [(0, _), (2, _), (3, _), (4, _), (5, _)] ⟨rfl, rfl, rfl, rfl, rfl, trivial⟩ ?_
  refine At.go ?_
  refine Sc.seq ?_
  refine Sc.seq ?_
  refine Sc.draw 7 (fun H => H[w3.heap.size]? = some (.cells (inoC (g0 b).2 []).toArray 33 (0, 0))) [0, 3, 4] [1, 2, 6, 0, 3, 4, 5] mixed (by kernel_rfl) (hg5) ?_
  refine Sx.calm rfl rfl (Cm.field fld33_0 rfl) rfl ?_
  refine Sx.calm rfl rfl (Cm.load sca3 rfl (fun H hH => cellF hH rfl)) rfl ?_
  refine Sx.calm rfl rfl (Cm.move rfl) rfl ?_
  refine Sx.eff rfl rfl (Sl.call fn52 rfl (common_ok _) rfl ?_)
  rintro _ w6 ⟨ao2, c2, rfl, ho2, hfr2, hf6⟩
  refine Sx.on (by exact hf6.obj hg5 id) ?_
  refine Sx.eff rfl rfl (Sl.call fn53 rfl (fields_ok (gK b) _) rfl ?_)
  rintro _ w7 ⟨ao3, c3, rfl, ho3, hfr3, hf7⟩
  refine Sx.on (by exact hf7.obj (hf6.obj hg5 id) id) ?_
  refine Sx.eff rfl rfl (Sl.appendM fdV_cells rfl sl94 rfl rfl (ho2.grow hf7) (ho3.vw fdV_cells) (by have := recL_len (gK b); unfold recL at this; rw [List.length_append] at this; omega) (by have := recL_len (gK b); unfold recL at this; rw [List.length_append] at this; unfold maxLen; omega) rfl ?_)
  intro ao4 c4 w8 ho4 hf8 hr4 hn4
  have hfr2 : Fr w5.heap.size ao2 := hfr2
  have hf6 := hf6.undraw
  have hz6 := hf6.size
  have hz7 := hf7.size
  have hF8 : Foot nob w5 w8 := (hf6.trans hf7).trans_to hf8 hfr2.step
  have hg8 := hF8.obj hg5 id
  have hz8 := hF8.size
  have hLlen := recL_len (gK b)
  refine Sx.on (by exact hg8) ?_
  refine Sx.calm rfl rfl (Cm.len sl94 rfl) rfl ?_
  refine Sx.nil ?_
  refine At.weak [(0, _), (2, _), (3, _), (4, _), (5, _), (17, _), (18, _), (19, _)] ⟨rfl, rfl, rfl, rfl, rfl, rfl, rfl, rfl, trivial⟩ ?_
  refine At.go ?_
  refine Sc.block ?_
  have hne4 : ∀ a, ao4 = some a → w5.heap.size ≤ a.block ∧ a.block < w8.heap.size := fun a ha => ⟨by rcases hr4 a ha with h | h; exact hfr2 a h; omega, ho4.lt a ha⟩
  refine Sc.loop (β := Nat) (fun k => [(2, .pointer (some ⟨W.heap.size, 0, none⟩)), (4, .pointer (some ⟨p, 0, none⟩)), (5, .pointer (some ⟨w3.heap.size, 0, none⟩)), (17, .slice ao4 (recL (gK b)).length c4), (18, .int .i64 (recL (gK b)).length), (19, .int .i64 k)]) (fun k w => k ≤ (recL (gK b)).length ∧ RdL (fun k => w1.heap.size ≤ k ∧ k < w2.heap.size) w.heap p (gSt b k).1.1 (gSt b k).1.2 ∧ w.heap[w3.heap.size]? = some (.cells (inoC (gSt b k).2 []).toArray 33 (0, 0)) ∧ VwM 3 fdV w.heap ao4 c4 (recL (gK b)) ∧ w.heap[W.heap.size]? = some (.cells (inoC (fun _ => 0) []).toArray 33 (0, 0)) ∧ w8.heap.size ≤ w.heap.size ∧ Foot nob W w) (fun k => (recL (gK b)).length - k) 0 ⟨rfl, rfl, rfl, rfl, rfl, rfl, trivial⟩ ⟨Nat.zero_le _, hP5.grow hF8, hg8, ho4.vw fdV_cells, hF8.obj hg5r id, Nat.le_refl _, hFW5.trans hF8⟩ ?_
  rintro k w9 ⟨hk, hP9, hq, hL, hr9, hlt9, hF9⟩
  refine Sc.seq ?_
  refine Sc.region ?_
  refine Sl.fork (Cm.lss rfl rfl) rfl (fun h20 => ?_) (fun h20 => ?_)
  ·
    refine Sl.nil ?_
    refine At.go ?_
    refine Sc.seq ?_
    refine Sc.cond_t rfl ?_
    refine Sc.skip ?_
    refine At.go ?_
    refine Sc.seq ?_
    refine Sc.block ?_
    refine Sc.seq ?_
    refine Sc.region ?_
    have hkL : k < (recL (gK b)).length := by omega
    have hrow := fd_row hL (k := k) rfl hkL
    have hmem := recL_at hkL
    obtain ⟨⟨hfn, ho10, ho0, hcall⟩, hb1, hb4, hm0, hmb⟩ := recL_off hmem
    obtain ⟨x, hx⟩ : ∃ x, x = (recL (gK b)).getD k fd0 := ⟨_, rfl⟩
    rw [← hx] at hrow hmem hfn ho10 ho0 hcall hb1 hb4 hm0
    refine Sl.calm (Cm.indexAddr sl94 rfl rfl hL.non (by omega)) rfl ?_
    refine Sl.calm (Cm.ldM (cs := fdV x) agg99 rfl hrow) rfl ?_
    refine Sl.allocC zc99 rfl ?_
    intro w10 hg10 hs10 hf10
    refine Sl.storeAll (vs := fdV x) agg99 rfl rfl (by simp [fdV, Value.oneCell']) hg10 rfl ?_
    intro w11 hg11 hs11 hf11
    have hF11 : Foot nob w9 w11 := hf10.trans_to hf11 (fun k hk => .inr (by have : k = w9.heap.size := hk; omega))
    have hq11 := hF11.obj hq id
    have hP11 := hP9.grow hF11
    have hz11 := hF11.size
    refine Sl.nil ?_
    refine At.weak [(2, _), (4, _), (5, _), (7, _), (17, _), (18, _), (19, _), (20, _)] ⟨rfl, rfl, rfl, rfl, rfl, rfl, rfl, rfl, trivial⟩ ?_
    refine At.go ?_
    refine Sc.draw 8 (fun H => H[w3.heap.size]? = some (.cells (inoC (gSt b k).2 []).toArray 33 (0, 0)) ∧ H[w9.heap.size]? = some (.cells (fdV x).toArray 99 (0, 0))) [2, 6, 8] [0, 1, 3, 4, 5, 2, 6, 7, 8] mixed (by kernel_rfl) (⟨hq11, hg11⟩) ?_
    refine Sx.calm rfl rfl (Cm.field fld99_0 rfl) rfl ?_
    refine Sx.calm rfl rfl (Cm.load sca97 rfl (fun H hH => cellF hH.2 rfl)) rfl ?_
    refine Sx.calm rfl rfl (Cm.move rfl) rfl ?_
    refine Sx.calm rfl rfl (Cm.field fld99_1 rfl) rfl ?_
    refine Sx.calm rfl rfl (Cm.load sca3 rfl (fun H hH => cellF hH.2 rfl)) rfl ?_
    refine Sx.eff rfl rfl (Sl.callV hfn rfl rfl (hcall w3.heap.size _) rfl ?_)
    rintro _ w12 ⟨rfl, hw12⟩
    subst w12
    refine Sx.on (by exact ⟨hq11, hg11⟩) ?_
    refine Sx.eff rfl rfl (Sl.call fn55 rfl (rdnum_ok p _ _ x.b _ (hP11.grow (Foot.refl _ _).undraw) (Nat.le_trans (gSt_len b k hk) hb)) rfl ?_)
    rintro _ w13 ⟨rfl, hP13, hf13⟩
    have hf13u := hf13.undraw
    have hq13 := hf13u.obj hq11 (by omega)
    refine Sx.on (by exact ⟨hf13.undraw.obj hq11 (by omega), hf13.undraw.obj hg11 (by omega)⟩) ?_
    refine Sx.calm rfl rfl (Cm.nilCheck rfl) rfl ?_
    refine Sx.eff rfl rfl (Sl.store sca3 rfl rfl rfl hq13 (by simp [inoC]; omega) ?_)
    intro w14 hg14 hs14 hf14
    refine Sx.last rfl ?_
    rw [inoC_set _ _ ho10] at hg14
    refine Sx.nil ?_
    refine At.block_normal ?_
    refine At.weak [(2, _), (4, _), (5, _), (7, _), (17, _), (18, _), (19, _), (20, _)] ⟨rfl, rfl, rfl, rfl, rfl, rfl, rfl, rfl, trivial⟩ ?_
    refine At.go ?_
    refine Sc.region ?_
    refine Sl.calm (Cm.add64 rfl rfl (by omega)) rfl ?_
    refine Sl.calm (Cm.move rfl) rfl ?_
    refine Sl.nil ?_
    refine At.again (k + 1) ⟨rfl, rfl, rfl, rfl, rfl, rfl, trivial⟩ ?_ (by show (recL (gK b)).length - (k + 1) < (recL (gK b)).length - k; omega)
    have hz13 := hf13u.size
    have hS := gSt_succ b k hkL
    rw [← hx] at hS
    refine ⟨by omega, ?_, ?_, ((hL.grow hF11).keep hf13u (fun a ha h => by have := hne4 a ha; have h2 : a.block = p := h; omega)).keep hf14 (fun a ha h => by have := hne4 a ha; have h2 : a.block = w3.heap.size := h; omega), hf14.obj (hf13u.obj (hF11.obj hr9 id) (by omega)) (by omega), by omega, ((hF9.trans hF11).trans_to hf13u (fun k hk => .inr (by have : k = p := hk; omega))).trans_to hf14 (fun k hk => .inr (by have : k = w3.heap.size := hk; omega))⟩
    · rw [hS]; exact hP13.keep hf14 (fun k hk h => by omega)
    · rw [hS]; exact hg14
  ·
    refine Sl.nil ?_
    refine At.go ?_
    refine Sc.seq ?_
    refine Sc.cond_f rfl ?_
    refine Sc.exit ?_
    refine At.then_exit ?_
    refine At.then_exit ?_
    refine At.block_hit ?_
    refine At.go ?_
    refine Sc.cut (β := Unit) (fun _u => [(2, .pointer (some ⟨W.heap.size, 0, none⟩)), (4, .pointer (some ⟨p, 0, none⟩)), (5, .pointer (some ⟨w3.heap.size, 0, none⟩))]) (fun _u w => RdL (fun k => w1.heap.size ≤ k ∧ k < w2.heap.size) w.heap p (gEnd b).1 (gEnd b).2 ∧ w.heap[w3.heap.size]? = some (.cells (inoC (gFn b) (gT b)).toArray 33 (0, 0)) ∧ w.heap[W.heap.size]? = some (.cells (inoC (fun _ => 0) []).toArray 33 (0, 0)) ∧ Foot nob W w) ?_ ?_
    ·
      refine Sc.seq ?_
      refine Sc.region ?_
      refine Sl.calm (Cm.field fld33_0 rfl) rfl ?_
      have hkk : k = (recL (gK b)).length := by omega
      subst hkk
      have e0 := gSt_0 b _ (Nat.le_refl _)
      rw [gSt_end] at hP9 hq e0
      refine Sl.calm (Cm.ld sca3 rfl (cellF hq rfl)) rfl ?_
      refine Sl.fork (Cm.eql rfl rfl) rfl (fun h34 => ?_) (fun h34 => ?_)
      ·
        have h3 : gK b = 3 := by omega
        have eE : gEnd b = gTxS (gR b).1 := by unfold gEnd; rw [if_pos h3]
        have eT : gT b = gTx (gR b).1 := by unfold gT; rw [if_pos h3]
        refine Sl.nil ?_
        refine At.weak [(2, _), (4, _), (5, _), (17, _), (18, _), (19, _), (20, _), (34, _)] ⟨rfl, rfl, rfl, rfl, rfl, rfl, rfl, rfl, trivial⟩ ?_
        refine At.go ?_
        refine Sc.cond_t rfl ?_
        refine Sc.region ?_
        refine Sl.calm (Cm.move rfl) rfl ?_
        refine Sl.call fn56 rfl (rdtext_ok p _ _ w9 hP9 (by have := gSt_len b _ (Nat.le_refl _); rw [gSt_end] at this; omega)) rfl ?_
        rintro _ w15 ⟨rfl, hP15, hf15⟩
        have hq15 := hf15.obj hq (by omega)
        refine Sl.calm (Cm.field fld33_10 rfl) rfl ?_
        refine Sl.store sca9 rfl rfl rfl hq15 rfl ?_
        intro w16 hg16 hs16 hf16
        have hg16 : w16.heap[w3.heap.size]? = some (.cells (inoC (gFn b) (gTx (gR b).1)).toArray 33 (0, 0)) := hg16
        have hr16 := hf16.obj (hf15.obj hr9 (by omega)) (fun h => by have h : W.heap.size = w3.heap.size := h; omega)
        have hP16 := hP15.keep hf16 (fun k hk h => by have h : k = w3.heap.size := h; omega)
        have hF16 := (hF9.trans_to hf15 (fun k hk => .inr (by have : k = p := hk; omega))).trans_to hf16 (fun k hk => .inr (by have : k = w3.heap.size := hk; omega))
        refine Sl.nil ?_
        refine At.cut () ⟨rfl, rfl, rfl, trivial⟩ ?_
        first
          | exact ⟨by rw [eE]; exact hP16, by rw [eT]; exact hg16, hr16, hF16⟩
          | exact ⟨by rw [eE]; exact hP9, by rw [eT]; exact hq, hr9, hF9⟩
      ·
        have h3 : ¬ gK b = 3 := by omega
        have eE : gEnd b = (gR b).1 := by unfold gEnd; rw [if_neg h3]
        have eT : gT b = [] := by unfold gT; rw [if_neg h3]
        refine Sl.nil ?_
        refine At.weak [(2, _), (4, _), (5, _), (17, _), (18, _), (19, _), (20, _), (34, _)] ⟨rfl, rfl, rfl, rfl, rfl, rfl, rfl, rfl, trivial⟩ ?_
        refine At.go ?_
        refine Sc.cond_f rfl ?_
        refine Sc.skip ?_
        refine At.cut () ⟨rfl, rfl, rfl, trivial⟩ ?_
        first
          | exact ⟨by rw [eE]; exact hP16, by rw [eT]; exact hg16, hr16, hF16⟩
          | exact ⟨by rw [eE]; exact hP9, by rw [eT]; exact hq, hr9, hF9⟩
    ·
      rintro _ w17 ⟨hP17, hq17, hr17, hF17⟩
      have hTl : (gT b).length ≤ maxLen := by have := gT_len b; unfold maxLen; omega
      refine Sc.seq ?_
      refine Sc.seq ?_
      refine Sc.region ?_
      refine Sl.calm (Cm.move rfl) rfl ?_
      refine Sl.call fn57 rfl (rdend_ok p _ _ w17 hP17) rfl ?_
      rintro _ w18 ⟨rfl, hf18⟩
      have hq18 := hf18.obj hq17 (by omega)
      have hr18 := hf18.obj hr17 (by omega)
      have hF18 := hF17.trans_to hf18 (fun k hk => .inr (by have : k = p := hk; omega))
      refine Sl.fork (Cm.neq rfl rfl) rfl (fun h40 => ?_) (fun h40 => ?_)
      ·
        have hno : ¬ TkOk b := fun h => h40 h.1
        have hf19 : Foot nob w18 w18 := Foot.refl _ _
        refine Sl.calm (Cm.move rfl) rfl ?_
        refine Sl.skip rfl rfl rfl rfl ?_
        refine Sl.skip rfl rfl rfl rfl ?_
        refine Sl.skip rfl rfl rfl rfl ?_
        refine Sl.calm (Cm.pick_t rfl rfl) rfl ?_
        refine Sl.nil ?_
        refine At.weak [(2, _), (4, _), (5, _), (45, _)] ⟨rfl, rfl, rfl, rfl, trivial⟩ ?_
        refine At.go ?_
        refine Sc.cond_t rfl ?_
        refine Sc.seq ?_
        refine Sc.region ?_
        refine Sl.calm (Cm.build (cs := (inoC (fun _ => 0) []).toArray) plc33 zc33 rfl (by kernel_rfl)) rfl ?_
        refine Sl.storeAll (vs := inoC (fun _ => 0) []) agg33 rfl rfl (by intro v hv; exact inoC_one _ _ v hv) (hf19.obj hr18 id) rfl ?_
        intro w20 hg20 hs20 hf20
        refine Sl.calm (Cm.assign rfl) rfl ?_
        refine Sl.nil ?_
        refine At.weak [(2, _), (3, _), (4, _), (5, _), (45, _)] ⟨rfl, rfl, rfl, rfl, rfl, trivial⟩ ?_
        refine At.go ?_
        refine Sc.ret ?_
        refine At.then_ret ?_
        refine At.retC (cs := inoC (fun _ => 0) []) rfl agg33 rfl rfl (fun j v hj => cellF hg20 hj) ?_
        obtain ⟨e1, e2, e3⟩ := tk_no hno
        exact ⟨_, rfl, by rw [e1, e2, e3], (hF18.trans hf19).trans_to hf20 (fun k hk => .inr (by have : k = W.heap.size := hk; omega))⟩
      ·
        refine Sl.calm (Cm.move rfl) rfl ?_
        refine Sl.want rfl rfl (Cm.ldM (cs := inoC (gFn b) (gT b)) agg33 rfl (fun j v hj => cellF hq18 hj)) rfl ?_
        refine Sl.callWant rfl rfl fn23 rfl (may_ok (gFn b) (gT b) w18 hTl) rfl ?_
        rintro _ w19 ⟨rfl, hf19⟩
        refine Sl.forkWant rfl rfl (Cm.notB rfl) rfl (fun h44 => ?_) (fun h44 => ?_)
        ·
          have hno : ¬ TkOk b := fun h => of_decide_eq_false h44 h.2
          refine Sl.calm (Cm.pick_f rfl rfl) rfl ?_
          refine Sl.nil ?_
          refine At.weak [(2, _), (4, _), (5, _), (45, _)] ⟨rfl, rfl, rfl, rfl, trivial⟩ ?_
          refine At.go ?_
          refine Sc.cond_t rfl ?_
          refine Sc.seq ?_
          refine Sc.region ?_
          refine Sl.calm (Cm.build (cs := (inoC (fun _ => 0) []).toArray) plc33 zc33 rfl (by kernel_rfl)) rfl ?_
          refine Sl.storeAll (vs := inoC (fun _ => 0) []) agg33 rfl rfl (by intro v hv; exact inoC_one _ _ v hv) (hf19.obj hr18 id) rfl ?_
          intro w20 hg20 hs20 hf20
          refine Sl.calm (Cm.assign rfl) rfl ?_
          refine Sl.nil ?_
          refine At.weak [(2, _), (3, _), (4, _), (5, _), (45, _)] ⟨rfl, rfl, rfl, rfl, rfl, trivial⟩ ?_
          refine At.go ?_
          refine Sc.ret ?_
          refine At.then_ret ?_
          refine At.retC (cs := inoC (fun _ => 0) []) rfl agg33 rfl rfl (fun j v hj => cellF hg20 hj) ?_
          obtain ⟨e1, e2, e3⟩ := tk_no hno
          exact ⟨_, rfl, by rw [e1, e2, e3], (hF18.trans hf19).trans_to hf20 (fun k hk => .inr (by have : k = W.heap.size := hk; omega))⟩
        ·
          have hyes : TkOk b := ⟨Decidable.not_not.1 h40, Classical.byContradiction fun h => h44 (decide_eq_false h)⟩
          refine Sl.calm (Cm.pick_f rfl rfl) rfl ?_
          refine Sl.nil ?_
          refine At.weak [(2, _), (4, _), (5, _), (45, _)] ⟨rfl, rfl, rfl, rfl, trivial⟩ ?_
          refine At.go ?_
          refine Sc.cond_f rfl ?_
          refine Sc.skip ?_
          refine At.go ?_
          refine Sc.seq ?_
          refine Sc.region ?_
          refine Sl.calm (Cm.ldM (cs := inoC (gFn b) (gT b)) agg33 rfl (fun j v hj => cellF (hf19.obj hq18 id) hj)) rfl ?_
          refine Sl.storeAll (vs := inoC (gFn b) (gT b)) agg33 rfl rfl (by intro v hv; exact inoC_one _ _ v hv) (hf19.obj hr18 id) rfl ?_
          intro w20 hg20 hs20 hf20
          refine Sl.calm (Cm.assign rfl) rfl ?_
          refine Sl.nil ?_
          refine At.weak [(2, _), (3, _), (4, _), (5, _), (45, _)] ⟨rfl, rfl, rfl, rfl, rfl, trivial⟩ ?_
          refine At.go ?_
          refine Sc.ret ?_
          refine At.retC (cs := inoC (gFn b) (gT b)) rfl agg33 rfl rfl (fun j v hj => cellF hg20 hj) ?_
          obtain ⟨e1, e2, e3⟩ := tk_yes hyes
          exact ⟨_, rfl, by rw [e1, e2, e3], (hF18.trans hf19).trans_to hf20 (fun k hk => .inr (by have : k = W.heap.size := hk; omega))⟩
end Go.Proofs.Ytoaplldahbbaiaa
