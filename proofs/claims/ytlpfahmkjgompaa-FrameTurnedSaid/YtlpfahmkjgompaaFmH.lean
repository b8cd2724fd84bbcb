/- frame: a frame of which one byte is turned, or that is cut, is none: the plain law. No condition. -/
import Derived.Test.YtlpfahmkjgompaaFmF
namespace Go.Proofs.Ytlpfahmkjgompaa
open Go Go.RowKit
set_option linter.unusedVariables false

/-! ### sums -/
theorem xor_div (a b i : Nat) : (a ^^^ b) / 2 ^ i = (a / 2 ^ i) ^^^ (b / 2 ^ i) := by
  rw [← Nat.shiftRight_eq_div_pow, ← Nat.shiftRight_eq_div_pow, ← Nat.shiftRight_eq_div_pow, Nat.shiftRight_xor_distrib]
theorem xor_can {a b c : Nat} (h : a ^^^ c = b ^^^ c) : a = b := by
  have := congrArg (· ^^^ c) h
  simpa [Nat.xor_assoc] using this
theorem xor_can' {a b c : Nat} (h : c ^^^ a = c ^^^ b) : a = b := by
  rw [Nat.xor_comm c a, Nat.xor_comm c b] at h; exact xor_can h
theorem e1_lin (a b : Nat) : e1 (a ^^^ b) = e1 a ^^^ e1 b := by
  have h1 : (a ^^^ b) / 2 = (a / 2) ^^^ (b / 2) := by have := xor_div a b 1; simpa using this
  have h2 : (a ^^^ b) % 2 = (a % 2) ^^^ (b % 2) := by have := Nat.xor_mod_two_pow (a := a) (b := b) (n := 1); simpa using this
  unfold e1
  rw [h1, h2]
  rcases Nat.mod_two_eq_zero_or_one a with ha | ha <;> rcases Nat.mod_two_eq_zero_or_one b with hb | hb <;> rw [ha, hb]
  · simp
  · simp [Nat.xor_assoc]
  · have x : ∀ a b p : Nat, (a ^^^ b) ^^^ p = (a ^^^ p) ^^^ b := fun a b p => by rw [Nat.xor_assoc, Nat.xor_comm b p, ← Nat.xor_assoc]
    simpa using x _ _ _
  · have x : ∀ a b p : Nat, a ^^^ b = (a ^^^ p) ^^^ (b ^^^ p) := fun a b p => by rw [Nat.xor_comm b p, Nat.xor_assoc, ← Nat.xor_assoc p p, Nat.xor_self, Nat.zero_xor]
    simpa using x (a / 2) (b / 2) 3988292384
theorem eN_lin (a b : Nat) : ∀ k, eN (a ^^^ b) k = eN a k ^^^ eN b k
  | 0 => rfl
  | k + 1 => by unfold eN; rw [eN_lin a b k, e1_lin]
theorem ent_top : ∀ d, d < 256 → ent d / 2 ^ 24 = 0 → d = 0 := by decide +kernel
theorem ent_inj {i j : Nat} (hi : i < 256) (hj : j < 256) (h : ent i / 2 ^ 24 = ent j / 2 ^ 24) : i = j := by
  have h1 : ent (i ^^^ j) / 2 ^ 24 = 0 := by
    unfold ent at *
    rw [eN_lin, xor_div, h, Nat.xor_self]
  have h2 := ent_top _ (xor_lt8 hi hj) h1
  exact xor_can (c := j) (by rw [h2, Nat.xor_self])
theorem crc1_top {r : Nat} (h : r < 4294967296) (c : UInt8) : crc1 r c / 2 ^ 24 = ent ((r % 256) ^^^ c.toNat) / 2 ^ 24 := by
  unfold crc1
  rw [xor_div, show r / 256 / 2 ^ 24 = 0 by omega, Nat.zero_xor]
theorem crc1_inj_r {r r' : Nat} (h : r < 4294967296) (h' : r' < 4294967296) (c : UInt8) (e : crc1 r c = crc1 r' c) : r = r' := by
  have e2 := ent_inj (idx_lt r c) (idx_lt r' c) (by rw [← crc1_top h, ← crc1_top h', e])
  have e3 : r % 256 = r' % 256 := xor_can e2
  unfold crc1 at e
  rw [e2] at e
  have e4 := xor_can e
  omega
theorem crc1_inj_c {r : Nat} {c c' : UInt8} (h : r < 4294967296) (e : crc1 r c = crc1 r c') : c = c' := by
  have e2 := ent_inj (idx_lt r c) (idx_lt r c') (by rw [← crc1_top h, ← crc1_top h, e])
  exact UInt8.toNat_inj.1 (xor_can' e2)
theorem crcG_inj : ∀ (q : List UInt8) {r r' : Nat}, r < 4294967296 → r' < 4294967296 → crcG r q = crcG r' q → r = r'
  | [], _, _, _, _, h => h
  | c :: q, r, r', h1, h2, h => crc1_inj_r h1 h2 c (crcG_inj q (crc1_lt h1 c) (crc1_lt h2 c) h)
theorem crcG_app (r : Nat) (a b : List UInt8) : crcG r (a ++ b) = crcG (crcG r a) b := by unfold crcG; rw [List.foldl_append]
theorem sum_turn {x : List UInt8} {i : Nat} (hi : i < x.length) {c : UInt8} (hc : c ≠ x.getD i 0) : sumS (x.set i c) ≠ sumS x := by
  intro h
  have e1 : x = x.take i ++ x.getD i 0 :: x.drop (i + 1) := by
    conv => lhs; rw [← List.take_append_drop i x, List.drop_eq_getElem_cons hi]
    simp [List.getD, hi]
  have e2 : x.set i c = x.take i ++ c :: x.drop (i + 1) := List.set_eq_take_append_cons_drop.trans (by rw [if_pos hi])
  unfold sumS at h
  have h1 := xor_can' h
  rw [e2] at h1
  conv at h1 => rhs; rw [e1]
  rw [crcG_app, crcG_app] at h1
  have hr := crcG_lt (x.take i) (show 4294967295 < 4294967296 by decide)
  have h2 := crcG_inj (x.drop (i + 1)) (crc1_lt hr c) (crc1_lt hr (x.getD i 0)) h1
  exact hc (crc1_inj_c hr h2)

/-! ### frames -/
theorem takeS_zero (im : List UInt8) : cutS im 0 = cutP im := by
  unfold cutS
  rw [if_neg (by omega)]; rfl
theorem hd_third {n : Nat} {a b c : UInt8} (h : [a, b, c] = hdB n) : n % 65536 = a.toNat + 256 * b.toNat ∧ c.toNat = 255 ^^^ (a.toNat ^^^ b.toNat) := by
  have l := fun x (hx : x ∈ hdN n) => hdN_lt hx
  simp only [hdN, List.mem_cons, List.not_mem_nil, or_false, forall_eq_or_imp, forall_eq] at l
  obtain ⟨l1, l2, l3⟩ := l
  simp only [hdB, hdN, List.map_cons, List.map_nil, List.cons.injEq, and_true] at h
  obtain ⟨h1, h2, h3⟩ := h
  have e1 : a.toNat = n % 256 := by rw [h1, UInt8.toNat_ofNat', Nat.mod_eq_of_lt l1]
  have e2 : b.toNat = n / 256 % 256 := by rw [h2, UInt8.toNat_ofNat', Nat.mod_eq_of_lt l2]
  have e3 : c.toNat = 255 ^^^ ((n % 256) ^^^ (n / 256 % 256)) := by rw [h3, UInt8.toNat_ofNat', Nat.mod_eq_of_lt l3]
  exact ⟨by omega, by rw [e3, e1, e2]⟩
theorem cutP_head {r : List UInt8} (h : r.take 3 ≠ hdB ((r.getD 0 0).toNat + 256 * (r.getD 1 0).toNat)) : cutP r = none := by
  unfold cutP
  by_cases h3 : r.length < 3
  · rw [if_pos h3]
  · rw [if_neg h3, if_pos h]
theorem hd_shape (n : Nat) : ∃ a b c, hdB n = [a, b, c] := ⟨_, _, _, rfl⟩
theorem turn_head {n : Nat} {t : List UInt8} {k : Nat} (hk : k < 3) {v : UInt8} (hv : v ≠ (hdB n).getD k 0) : cutP ((hdB n).set k v ++ t) = none := by
  obtain ⟨a, b, c, habc⟩ := hd_shape n
  have ho := hd_third habc.symm
  rw [habc] at hv ⊢
  apply cutP_head
  match k, hk with
  | 0, _ =>
    intro h
    have h2 := (hd_third (n := v.toNat + 256 * b.toNat) (a := v) (b := b) (c := c) h).2
    rw [ho.2] at h2
    have := xor_can (xor_can' h2)
    exact hv (UInt8.toNat_inj.1 this.symm)
  | 1, _ =>
    intro h
    have h2 := (hd_third (n := a.toNat + 256 * v.toNat) (a := a) (b := v) (c := c) h).2
    rw [ho.2] at h2
    have := xor_can' (xor_can' h2)
    exact hv (UInt8.toNat_inj.1 this.symm)
  | 2, _ =>
    intro h
    have h2 := (hd_third (n := a.toNat + 256 * b.toNat) (a := a) (b := b) (c := v) h).2
    exact hv (UInt8.toNat_inj.1 (by rw [h2]; exact ho.2.symm))
theorem valB_inj {x y : List UInt8} (hl : x.length = y.length) (h : valB x = valB y) : x = y := by rw [← le_valB x, ← le_valB y, h, hl]
/-- a frame's parts -/
theorem cut_parts {y s z : List UInt8} {mark : Nat} (hs : s.length = 4) (hz : z.length = y.length) (h0 : 0 < y.length) (hy : y.length ≤ 128) (hm : mark = 0 ∨ mark = 32768) : ∃ st, cutP (hdB (y.length + mark) ++ (s ++ z)) = some (z, valB s, st) := by
  have e0 : ((hdB (y.length + mark) ++ (s ++ z)).getD 0 0).toNat + 256 * ((hdB (y.length + mark) ++ (s ++ z)).getD 1 0).toNat = y.length + mark := by
    have h0 : (hdB (y.length + mark) ++ (s ++ z)).getD 0 0 = (hdB (y.length + mark)).getD 0 0 := rfl
    have h1 : (hdB (y.length + mark) ++ (s ++ z)).getD 1 0 = (hdB (y.length + mark)).getD 1 0 := rfl
    rw [h0, h1, hd_get0, hd_get1]; omega
  have e3 : (hdB (y.length + mark) ++ (s ++ z)).take 3 = hdB (y.length + mark) := rfl
  have d3 : (hdB (y.length + mark) ++ (s ++ z)).drop 3 = s ++ z := List.drop_left' (hdB_len _)
  have d7 : (hdB (y.length + mark) ++ (s ++ z)).drop 7 = z := by rw [show 7 = 3 + 4 from rfl, ← List.drop_drop, d3, List.drop_left' hs]
  have hl : (hdB (y.length + mark) ++ (s ++ z)).length = 7 + y.length := by rw [List.length_append, List.length_append, hdB_len]; omega
  have hmod : (y.length + mark) % 32768 = y.length := by omega
  refine ⟨decide (32768 ≤ y.length + mark), ?_⟩
  unfold cutP
  rw [e0, e3, hl, if_neg (by omega), if_neg (fun h => h rfl), hmod, if_neg (by omega), if_neg (by omega), if_neg (by omega), d3, d7, List.take_left' hs, List.take_of_length_le (by omega)]
theorem takeC_sum {x : List UInt8} {s : Nat} {st : Bool} (h0 : 0 < x.length) (h : sumS x ≠ s) : takeC (some (x, s, st)) = ([], 0, 2) := by
  unfold takeC
  simp only
  rw [if_neg (by omega), if_pos h]
theorem turn_frame {y : List UInt8} {mark : Nat} (hy : y.length ≤ 128) (hm : mark = 0 ∨ mark = 32768 ∧ 0 < y.length) {k : Nat} (hk : k < (frS y mark).length) {v : UInt8} (hv : v ≠ (frS y mark).getD k 0) : takeC (cutP ((frS y mark).set k v)) = ([], 0, 2) := by
  have hlen := frS_len y mark
  by_cases h3 : k < 3
  · have e : (frS y mark).set k v = (hdB (y.length + mark)).set k v ++ (if y.length = 0 then [] else le (sumS y : Nat) 4 ++ y) := by
      unfold frS; rw [List.set_append_left _ _ (by rw [hdB_len]; exact h3)]
    have hv2 : v ≠ (hdB (y.length + mark)).getD k 0 := by
      intro h; apply hv; rw [h]
      unfold frS
      rw [List.getD, List.getD, List.getElem?_append_left (by rw [hdB_len]; exact h3)]
    rw [e, turn_head h3 hv2]; rfl
  · have h0 : 0 < y.length := by
      apply Classical.byContradiction
      intro h
      rw [hlen] at hk
      unfold lenF at hk
      rw [if_pos (by omega)] at hk; omega
    have hf : frS y mark = hdB (y.length + mark) ++ (le (sumS y : Nat) 4 ++ y) := by unfold frS; rw [if_neg (by omega)]
    have hm2 : mark = 0 ∨ mark = 32768 := by omega
    have hs := sumS_lt y
    have hvs := valB_le 4 (sumS y : Nat) (by omega) (by omega)
    have hkl : k < 7 + y.length := by rw [hlen] at hk; unfold lenF at hk; rw [if_neg (by omega)] at hk; exact hk
    rw [hf] at hv ⊢
    rw [List.set_append_right _ _ (by rw [hdB_len]; omega), hdB_len]
    have hg : (hdB (y.length + mark) ++ (le (sumS y : Nat) 4 ++ y)).getD k 0 = (le (sumS y : Nat) 4 ++ y).getD (k - 3) 0 := by
      rw [List.getD, List.getD, List.getElem?_append_right (by rw [hdB_len]; omega), hdB_len]
    rw [hg] at hv
    by_cases h7 : k < 7
    · rw [List.set_append_left _ _ (by rw [le_length]; omega)]
      have hg2 : (le (sumS y : Nat) 4 ++ y).getD (k - 3) 0 = (le (sumS y : Nat) 4).getD (k - 3) 0 := by
        rw [List.getD, List.getD, List.getElem?_append_left (by rw [le_length]; omega)]
      rw [hg2] at hv
      obtain ⟨st, hc⟩ := cut_parts (y := y) (s := (le (sumS y : Nat) 4).set (k - 3) v) (z := y) (by rw [List.length_set, le_length]) rfl h0 hy hm2
      rw [hc]
      refine takeC_sum h0 (fun h => ?_)
      have h8 : valB ((le (sumS y : Nat) 4).set (k - 3) v) = valB (le (sumS y : Nat) 4) := by omega
      have h9 := valB_inj (by rw [List.length_set]) h8
      apply hv
      rw [← h9, List.getD, List.getElem?_set, if_pos rfl, if_pos (by rw [le_length]; omega)]; rfl
    · rw [List.set_append_right _ _ (by rw [le_length]; omega), le_length]
      have hg2 : (le (sumS y : Nat) 4 ++ y).getD (k - 3) 0 = y.getD (k - 3 - 4) 0 := by
        rw [List.getD, List.getD, List.getElem?_append_right (by rw [le_length]; omega), le_length]
      rw [hg2] at hv
      obtain ⟨st, hc⟩ := cut_parts (y := y) (s := le (sumS y : Nat) 4) (z := y.set (k - 3 - 4) v) (le_length _ _) (by rw [List.length_set]) h0 hy hm2
      rw [hc]
      refine takeC_sum (by rw [List.length_set]; exact h0) (fun h => ?_)
      exact sum_turn (show k - 3 - 4 < y.length by omega) hv (by omega)
theorem short_frame {y : List UInt8} {mark : Nat} (hy : y.length ≤ 128) (hm : mark = 0 ∨ mark = 32768 ∧ 0 < y.length) {k : Nat} (hk : k < (frS y mark).length) : cutP ((frS y mark).take k) = none := by
  have hlen := frS_len y mark
  have hl : ((frS y mark).take k).length = k := by rw [List.length_take]; omega
  by_cases h3 : k < 3
  · unfold cutP; rw [if_pos (by omega)]
  · have h0 : 0 < y.length := by
      apply Classical.byContradiction
      intro h
      rw [hlen] at hk
      unfold lenF at hk
      rw [if_pos (by omega)] at hk; omega
    have hkl : k < 7 + y.length := by rw [hlen] at hk; unfold lenF at hk; rw [if_neg (by omega)] at hk; exact hk
    have e0 : (((frS y mark).take k).getD 0 0).toNat + 256 * (((frS y mark).take k).getD 1 0).toNat = y.length + mark := by
      have h0 : ((frS y mark).take k).getD 0 0 = (hdB (y.length + mark)).getD 0 0 := by rw [List.getD, List.getElem?_take, if_pos (by omega)]; rfl
      have h1 : ((frS y mark).take k).getD 1 0 = (hdB (y.length + mark)).getD 1 0 := by rw [List.getD, List.getElem?_take, if_pos (by omega)]; rfl
      rw [h0, h1, hd_get0, hd_get1]; omega
    have hmod : (y.length + mark) % 32768 = y.length := by omega
    have e3 : ((frS y mark).take k).take 3 = hdB (y.length + mark) := by rw [List.take_take, Nat.min_eq_left (by omega)]; rfl
    unfold cutP
    rw [e0, hl, e3, if_neg h3, if_neg (fun h => h rfl), hmod, if_neg (by omega), if_neg (by omega), if_pos (by omega)]
theorem putS_fr {b : List UInt8} (h : b.length ≤ 128) : ∃ y mark, (putS b).1 = frS y mark ∧ y.length ≤ 128 ∧ (mark = 0 ∨ mark = 32768 ∧ 0 < y.length) := by
  unfold putS
  rw [if_neg (by omega)]
  split
  · exact ⟨[], 0, rfl, by simp, .inl rfl⟩
  · split
    · exact ⟨pkS b, 0, rfl, by omega, .inl rfl⟩
    · exact ⟨b, 32768, rfl, h, .inr ⟨rfl, by omega⟩⟩
theorem turn_put {b : List UInt8} (h : b.length ≤ 128) {k : Nat} (hk : k < (putS b).1.length) {v : UInt8} (hv : v ≠ (putS b).1.getD k 0) : (takeS ((putS b).1.set k v) 0).2.2 = 2 := by
  obtain ⟨y, mark, e, h1, h2⟩ := putS_fr h
  rw [e] at hk hv ⊢
  unfold takeS
  rw [takeS_zero, turn_frame h1 h2 hk hv]
theorem short_put {b : List UInt8} (h : b.length ≤ 128) {k : Nat} (hk : k < (putS b).1.length) : (takeS ((putS b).1.take k) 0).2.2 = 2 ∧ (skipS ((putS b).1.take k) 0).2 = 2 := by
  obtain ⟨y, mark, e, h1, h2⟩ := putS_fr h
  rw [e] at hk ⊢
  have hc : cutS ((frS y mark).take k) 0 = none := by rw [takeS_zero]; exact short_frame h1 h2 hk
  exact ⟨by rw [takeS_none hc], by rw [skipS_none hc]⟩
end Go.Proofs.Ytlpfahmkjgompaa
