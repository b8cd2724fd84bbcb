/- meta: what is read: how long it is, how it begins, where it ends. No condition. -/
import Derived.Test.YtoaplldahbbaiaaKD
namespace Go.Proofs.Ytoaplldahbbaiaa
open Go Go.RowKit
set_option linter.unusedVariables false

section
variable {im : List UInt8} {fr to : Int}
theorem rdL_sum (n : Nat) (B : Int) (hB : 256 * (to - fr) + 128 ≤ B) (m : Nat) : ∀ (at_ : Int) (i : Nat) (out : List UInt8), n - out.length = m → 0 ≤ at_ → 256 * at_ + i ≤ B →
    rdL im fr to n at_ i out = ([], 0, 2) ∨ ((rdL im fr to n at_ i out).2.2 = 0 ∧ (out.length ≤ n → (rdL im fr to n at_ i out).1.length = n) ∧ (∃ z, (rdL im fr to n at_ i out).1 = out ++ z) ∧ 0 ≤ (rdL im fr to n at_ i out).2.1 ∧ (rdL im fr to n at_ i out).2.1 ≤ B) := by
  induction m using Nat.strongRecOn with
  | ind m ih =>
    intro at_ i out hm h0 hb
    by_cases h : out.length < n
    · cases hh : holdsS im fr to at_ with
      | none => exact .inl (rdL_none h hh)
      | some p =>
        obtain ⟨b, nx⟩ := p
        by_cases hi : b.length ≤ i
        · exact .inl (rdL_out h hh hi)
        · obtain ⟨s1, s2, s3, s4, s5, s6, s7, s8⟩ := holdsS_some hh
          obtain ⟨x, hx⟩ : ∃ x, x = (b.drop i).take (n - out.length) := ⟨_, rfl⟩
          have hxl : x.length = min (b.length - i) (n - out.length) := by rw [hx, List.length_take, List.length_drop]; omega
          have hal : (out ++ x).length = out.length + x.length := List.length_append
          by_cases h1 : i + x.length = 128
          · rw [rdL_next h hh hi (by rw [← hx]; exact h1), ← hx]
            rcases ih (n - (out ++ x).length) (by omega) nx 0 (out ++ x) rfl (by omega) (by omega) with h2 | ⟨h2, h3, ⟨z, h4⟩, h5⟩
            · exact .inl h2
            · exact .inr ⟨h2, fun _ => h3 (by omega), ⟨x ++ z, by rw [h4, List.append_assoc]⟩, h5⟩
          · by_cases h2 : (out ++ x).length < n
            · exact .inl (rdL_bad h hh hi (by rw [← hx]; exact h1) (by rw [← hx]; exact h2))
            · rw [rdL_on h hh hi (by rw [← hx]; exact h1) (by rw [← hx]; exact h2), ← hx]
              rcases ih (n - (out ++ x).length) (by omega) at_ (i + x.length) (out ++ x) rfl h0 (by omega) with h3 | ⟨h3, h4, ⟨z, h5⟩, h6⟩
              · exact .inl h3
              · exact .inr ⟨h3, fun _ => h4 (by omega), ⟨x ++ z, by rw [h5, List.append_assoc]⟩, h6⟩
    · rw [rdL_end h]
      exact .inr ⟨rfl, fun h3 => by show out.length = n; omega, ⟨[], by simp⟩, by show 0 ≤ 256 * at_ + i; omega, hb⟩
theorem may_true' (h : mayS im fr to = true) : 0 ≤ fr ∧ fr ≤ to ∧ to ≤ im.length := by
  unfold mayS at h
  simp only [Bool.and_eq_true, decide_eq_true_eq] at h; omega
theorem readS_sum (ref n : Int) : readS im fr to ref n = ([], 0, 1) ∨ readS im fr to ref n = ([], 0, 2) ∨
    ((readS im fr to ref n).2.2 = 0 ∧ 0 ≤ ref ∧ 0 ≤ n ∧ mayS im fr to = true ∧ ((readS im fr to ref n).1.length : Int) = n ∧ 0 ≤ (readS im fr to ref n).2.1 ∧ (readS im fr to ref n).2.1 ≤ max ref (256 * im.length + 128)) := by
  by_cases h1 : ref < 0 ∨ n < 0
  · left; unfold readS; rw [if_pos h1]
  · by_cases h2 : mayS im fr to = false
    · right; left; unfold readS; rw [if_neg h1, if_pos h2]
    · have h3 : mayS im fr to = true := by simpa using h2
      obtain ⟨m1, m2, m3⟩ := may_true' h3
      have e : readS im fr to ref n = rdL im fr to n.toNat (ref / 256) (ref % 256).toNat [] := by unfold readS; rw [if_neg h1, if_neg h2]
      rw [e]
      rcases rdL_sum (im := im) (fr := fr) (to := to) n.toNat (max ref (256 * im.length + 128)) (by omega) _ (ref / 256) (ref % 256).toNat [] rfl (by omega) (by omega) with h | ⟨h, h4, _, h5, h6⟩
      · exact .inr (.inl h)
      · exact .inr (.inr ⟨h, by omega, by omega, h3, by rw [h4 (Nat.zero_le _)]; omega, h5, h6⟩)
theorem readS_err {ref n : Int} (h : (readS im fr to ref n).2.2 ≠ 0) : (readS im fr to ref n).1 = [] ∧ (readS im fr to ref n).2.1 = 0 := by
  rcases readS_sum (im := im) (fr := fr) (to := to) ref n with e | e | e
  · rw [e]; exact ⟨rfl, rfl⟩
  · rw [e]; exact ⟨rfl, rfl⟩
  · exact absurd e.1 h
theorem readS_ok {ref n : Int} (h : (readS im fr to ref n).2.2 = 0) : 0 ≤ ref ∧ 0 ≤ n ∧ mayS im fr to = true ∧ ((readS im fr to ref n).1.length : Int) = n ∧ 0 ≤ (readS im fr to ref n).2.1 ∧ (readS im fr to ref n).2.1 ≤ max ref (256 * im.length + 128) := by
  rcases readS_sum (im := im) (fr := fr) (to := to) ref n with e | e | e
  · rw [e] at h; cases h
  · rw [e] at h; cases h
  · exact e.2
theorem readS_zero {ref : Int} (h : 0 ≤ ref) (hm : mayS im fr to = true) : readS im fr to ref 0 = ([], ref, 0) := by
  unfold readS
  rw [if_neg (by omega), if_neg (by rw [hm]; simp), rdL_end (by simp)]
  congr 2; omega
/-- what is read begins where the ref says -/
theorem readS_first {ref n : Int} (h : (readS im fr to ref n).2.2 = 0) (hn : 0 < n) : ∃ b nx, holdsS im fr to (ref / 256) = some (b, nx) ∧ (readS im fr to ref n).1.getD 0 0 = b.getD (ref % 256).toNat 0 := by
  obtain ⟨h1, h2, h3, h4, _⟩ := readS_ok h
  obtain ⟨m1, m2, m3⟩ := may_true' h3
  have e : readS im fr to ref n = rdL im fr to n.toNat (ref / 256) (ref % 256).toNat [] := by unfold readS; rw [if_neg (by omega), if_neg (by rw [h3]; simp)]
  rw [e] at h h4 ⊢
  have h0 : ([] : List UInt8).length < n.toNat := by simp; omega
  cases hh : holdsS im fr to (ref / 256) with
  | none => rw [rdL_none h0 hh] at h; cases h
  | some p =>
    obtain ⟨b, nx⟩ := p
    by_cases hi : b.length ≤ (ref % 256).toNat
    · rw [rdL_out h0 hh hi] at h; cases h
    · refine ⟨b, nx, rfl, ?_⟩
      obtain ⟨s1, s2, s3, s4, s5, s6, s7, s8⟩ := holdsS_some hh
      obtain ⟨x, hx⟩ : ∃ x, x = (b.drop (ref % 256).toNat).take (n.toNat - ([] : List UInt8).length) := ⟨_, rfl⟩
      have hxl : x.length = min (b.length - (ref % 256).toNat) n.toNat := by rw [hx, List.length_take, List.length_drop]; simp only [List.length_nil]; omega
      have hx0 : ∀ z : List UInt8, (x ++ z).getD 0 0 = b.getD (ref % 256).toNat 0 := fun z => by
        rw [List.getD, List.getD, List.getElem?_append_left (by omega), hx, List.getElem?_take, if_pos (by simp; omega), List.getElem?_drop, Nat.add_zero]
      by_cases h5 : (ref % 256).toNat + x.length = 128
      · rw [rdL_next h0 hh hi (by rw [← hx]; exact h5), ← hx] at h ⊢
        rcases rdL_sum (im := im) (fr := fr) (to := to) n.toNat (256 * (to - fr) + 256) (by omega) _ nx 0 ([] ++ x) rfl (by omega) (by omega) with e2 | ⟨_, _, ⟨z, e2⟩, _⟩
        · rw [e2] at h; cases h
        · rw [e2, List.nil_append]; exact hx0 z
      · by_cases h6 : ([] ++ x).length < n.toNat
        · rw [rdL_bad h0 hh hi (by rw [← hx]; exact h5) (by rw [← hx]; exact h6)] at h; cases h
        · rw [rdL_on h0 hh hi (by rw [← hx]; exact h5) (by rw [← hx]; exact h6), ← hx]
          rw [rdL_end h6]
          show ([] ++ x).getD 0 0 = _
          rw [List.nil_append]
          have := hx0 []
          rwa [List.append_nil] at this
theorem readS_same {ref n m : Int} (h : (readS im fr to ref n).2.2 = 0) (h' : (readS im fr to ref m).2.2 = 0) (hn : 0 < n) (hm : 0 < m) : (readS im fr to ref n).1.getD 0 0 = (readS im fr to ref m).1.getD 0 0 := by
  obtain ⟨b, nx, e1, e2⟩ := readS_first h hn
  obtain ⟨b', nx', e3, e4⟩ := readS_first h' hm
  rw [e1] at e3
  cases e3
  rw [e2, e4]
end
end Go.Proofs.Ytoaplldahbbaiaa
