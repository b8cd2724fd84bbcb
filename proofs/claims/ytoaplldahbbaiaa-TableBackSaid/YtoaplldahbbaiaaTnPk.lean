/- table: numbers that are taken: the plain law. No condition beyond the bounds that each states. -/
import Derived.Test.YtoaplldahbbaiaaMtQk
import Derived.Test.YtoaplldahbbaiaaCrk
namespace Go.Proofs.Ytoaplldahbbaiaa
open Go Go.RowKit
set_option linter.unusedVariables false

section
variable {im : List UInt8} {fr to : Int}
theorem rdL_adv (n : Nat) (m : Nat) : ∀ (at_ : Int) (i : Nat) (out : List UInt8), n - out.length = m → out.length ≤ n → (rdL im fr to n at_ i out).2.2 = 0 →
    256 * at_ + i + ((n - out.length : Nat) : Int) ≤ (rdL im fr to n at_ i out).2.1 := by
  induction m using Nat.strongRecOn with
  | ind m ih =>
    intro at_ i out hm hle h0
    by_cases h : out.length < n
    · cases hh : holdsS im fr to at_ with
      | none => rw [rdL_none h hh] at h0; cases h0
      | some p =>
        obtain ⟨b, nx⟩ := p
        by_cases hi : b.length ≤ i
        · rw [rdL_out h hh hi] at h0; cases h0
        · obtain ⟨s1, s2, s3, s4, s5, s6, s7, s8⟩ := holdsS_some hh
          obtain ⟨x, hx⟩ : ∃ x, x = (b.drop i).take (n - out.length) := ⟨_, rfl⟩
          have hxl : x.length = min (b.length - i) (n - out.length) := by rw [hx, List.length_take, List.length_drop]; omega
          have hal : (out ++ x).length = out.length + x.length := List.length_append
          by_cases h1 : i + x.length = 128
          · rw [rdL_next h hh hi (by rw [← hx]; exact h1), ← hx] at h0 ⊢
            have := ih (n - (out ++ x).length) (by omega) nx 0 (out ++ x) rfl (by omega) h0
            omega
          · by_cases h2 : (out ++ x).length < n
            · rw [rdL_bad h hh hi (by rw [← hx]; exact h1) (by rw [← hx]; exact h2)] at h0; cases h0
            · rw [rdL_on h hh hi (by rw [← hx]; exact h1) (by rw [← hx]; exact h2), ← hx] at h0 ⊢
              have := ih (n - (out ++ x).length) (by omega) at_ (i + x.length) (out ++ x) rfl (by omega) h0
              omega
    · rw [rdL_end h]
      show _ ≤ 256 * at_ + (i : Int)
      omega
theorem readS_adv {ref n : Int} (h : (readS im fr to ref n).2.2 = 0) : ref + n ≤ (readS im fr to ref n).2.1 := by
  obtain ⟨h1, h2, h3, _⟩ := readS_ok h
  have e : readS im fr to ref n = rdL im fr to n.toNat (ref / 256) (ref % 256).toNat [] := by unfold readS; rw [if_neg (by omega), if_neg (by rw [h3]; simp)]
  rw [e] at h ⊢
  have := rdL_adv (im := im) (fr := fr) (to := to) n.toNat n.toNat (ref / 256) (ref % 256).toNat [] (by simp) (by simp) h
  simp only [List.length_nil, Nat.sub_zero] at this
  omega
theorem readS_may {ref n : Int} (h : mayS im fr to = false) : (readS im fr to ref n).2.2 ≠ 0 := fun e => by have := (readS_ok e).2.2.1; rw [h] at this; cases this

def tkL (im : List UInt8) (fr to wide : Int) : Nat → Int → Option (List Int × Int)
  | 0, ref => some ([], ref)
  | k + 1, ref => if (readS im fr to ref wide).2.2 ≠ 0 then none else (tkL im fr to wide k (readS im fr to ref wide).2.1).map fun p => (((valB (readS im fr to ref wide).1 : Nat) : Int) :: p.1, p.2)
def tnS (im : List UInt8) (fr to many wide : Int) : List Int × Int :=
  if many < 0 ∨ ¬ (wide = 2 ∨ wide = 4) then ([], 1) else if mayS im fr to = false then ([], 2) else
  match tkL im fr to wide many.toNat 0 with
  | none => ([], 2)
  | some (l, r) => if (readS im fr to r 1).2.2 = 0 then ([], 2) else (l, 0)
def TnI (im : List UInt8) (fr to wide : Int) (k : Nat) (os : List Int) (ref : Int) : Prop :=
  os.length ≤ k ∧ tkL im fr to wide k 0 = (tkL im fr to wide (k - os.length) ref).map (fun p => (os ++ p.1, p.2)) ∧ (os.length : Int) ≤ ref ∧ ref ≤ 256 * im.length + 128
variable {wide many : Int} {k : Nat} {os : List Int} {ref : Int}
theorem tkL_succ (k : Nat) (ref : Int) : tkL im fr to wide (k + 1) ref = if (readS im fr to ref wide).2.2 ≠ 0 then none else (tkL im fr to wide k (readS im fr to ref wide).2.1).map fun p => (((valB (readS im fr to ref wide).1 : Nat) : Int) :: p.1, p.2) := rfl
theorem TnI.zero : TnI im fr to wide k [] 0 := ⟨Nat.zero_le _, by cases tkL im fr to wide k 0 <;> simp, by simp, by omega⟩
theorem TnI.bad (h : TnI im fr to wide k os ref) (hl : os.length < k) (he : (readS im fr to ref wide).2.2 ≠ 0) : tkL im fr to wide k 0 = none := by
  obtain ⟨m, hm⟩ : ∃ m, k - os.length = m + 1 := ⟨k - os.length - 1, by omega⟩
  have := h.2.1
  rw [hm] at this
  rw [this, tkL_succ, if_pos he]; rfl
theorem TnI.next (h : TnI im fr to wide k os ref) (hl : os.length < k) (hw : 1 ≤ wide) (he : (readS im fr to ref wide).2.2 = 0) : TnI im fr to wide k (os ++ [((valB (readS im fr to ref wide).1 : Nat) : Int)]) (readS im fr to ref wide).2.1 := by
  obtain ⟨h1, h2, h3, h4⟩ := h
  obtain ⟨m, hm⟩ : ∃ m, k - os.length = m + 1 := ⟨k - os.length - 1, by omega⟩
  have ha := readS_adv he
  obtain ⟨r1, r2, r3, r4, r5, r6⟩ := readS_ok he
  refine ⟨by simp; omega, ?_, by simp; omega, by omega⟩
  rw [h2, hm]
  have e : k - (os ++ [((valB (readS im fr to ref wide).1 : Nat) : Int)]).length = m := by simp; omega
  rw [e, tkL_succ, if_neg (fun h' => h' he)]
  cases tkL im fr to wide m (readS im fr to ref wide).2.1 <;> simp
theorem TnI.done (h : TnI im fr to wide k os ref) (hl : ¬ os.length < k) : tkL im fr to wide k 0 = some (os, ref) := by
  have := h.2.1
  rw [show k - os.length = 0 by omega] at this
  rw [this]
  simp [tkL]
theorem tnS_arg (h : many < 0 ∨ ¬ (wide = 2 ∨ wide = 4)) : tnS im fr to many wide = ([], 1) := by unfold tnS; rw [if_pos h]
theorem tnS_may (h : ¬ (many < 0 ∨ ¬ (wide = 2 ∨ wide = 4))) (hm : mayS im fr to = false) : tnS im fr to many wide = ([], 2) := by unfold tnS; rw [if_neg h, if_pos hm]
theorem tnS_none (h : ¬ (many < 0 ∨ ¬ (wide = 2 ∨ wide = 4))) (hn : tkL im fr to wide many.toNat 0 = none) : tnS im fr to many wide = ([], 2) := by
  unfold tnS; rw [if_neg h, hn]; split <;> rfl
theorem tnS_more (h : ¬ (many < 0 ∨ ¬ (wide = 2 ∨ wide = 4))) (hn : tkL im fr to wide many.toNat 0 = some (os, ref)) (he : (readS im fr to ref 1).2.2 = 0) : tnS im fr to many wide = ([], 2) := by
  unfold tnS; rw [if_neg h, hn]; split
  · rfl
  · show (if _ then _ else _) = _; rw [if_pos he]
theorem tnS_good (h : ¬ (many < 0 ∨ ¬ (wide = 2 ∨ wide = 4))) (hm : mayS im fr to = true) (hn : tkL im fr to wide many.toNat 0 = some (os, ref)) (he : (readS im fr to ref 1).2.2 ≠ 0) : tnS im fr to many wide = (os, 0) := by
  unfold tnS; rw [if_neg h, if_neg (by rw [hm]; simp), hn]
  show (if _ then _ else _) = _; rw [if_neg he]
end
end Go.Proofs.Ytoaplldahbbaiaa
