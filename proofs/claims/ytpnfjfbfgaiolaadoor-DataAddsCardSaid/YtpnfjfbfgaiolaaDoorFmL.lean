/- frame: how long what is taken is at most. No condition. -/
import Derived.Test.YtpnfjfbfgaiolaaDoorFmE
namespace Go.Proofs.YtpnfjfbfgaiolaaDoor
open Go Go.RowKit
set_option linter.unusedVariables false

def bd (z : Int) : Prop := -9223372036854775808 ≤ z ∧ z ≤ 9223372036854775807
theorem up_len (most : Int) : ∀ (k : Nat) (b out : List UInt8), b.length = k → (out.length : Int) ≤ most → ((up most b out).1.length : Int) ≤ most := by
  intro k
  induction k using Nat.strongRecOn with
  | ind k ih =>
    intro b out hk ho
    by_cases h0 : 0 < b.length
    · have hm : (0 : Int) ≤ most := by omega
      obtain ⟨t, ht⟩ : ∃ t, t = (b.getD 0 0).toNat := ⟨_, rfl⟩
      have ht2 := (b.getD 0 0).toNat_lt
      by_cases h : t < 128
      · rw [up_small h0 ht h]
        split
        · simpa using hm
        · split
          · simpa using hm
          · refine ih _ ?_ (b.drop (t + 2)) _ rfl ?_
            · rw [List.length_drop]; omega
            · rw [List.length_append, List.length_take, List.length_drop]; omega
      · rw [up_great h0 ht rfl h]
        split
        · simpa using hm
        · split
          · simpa using hm
          · split
            · simpa using hm
            · refine ih _ ?_ (b.drop 2) _ rfl ?_
              · rw [List.length_drop]; omega
              · rw [cp_len]; omega
    · have : b = [] := List.eq_nil_of_length_eq_zero (by omega)
      subst this
      rw [up_nil]; exact ho
theorem takeS_len (im : List UInt8) (a : Int) : (takeS im a).1.length ≤ 128 := by
  unfold takeS takeC
  simp only
  split
  · simp
  · rename_i x s st h
    have h1 := (cutS_len h).1
    have h2 := up_len 128 _ x [] rfl (by simp)
    split
    · simp
    · split
      · simp
      · split
        · exact h1
        · split
          · simp
          · simp only; omega
end Go.Proofs.YtpnfjfbfgaiolaaDoor
