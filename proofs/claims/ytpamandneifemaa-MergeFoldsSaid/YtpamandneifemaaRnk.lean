/- Ranging over a string: what is told of it, and the bytes that a rune takes. No condition. -/
import Derived.Test.YtpamandneifemaaMpk
namespace Go.Proofs.Ytpamandneifemaa
open Go Go.RowKit
set_option linter.unusedVariables false

section
variable {P : Program} {N : Nt} {Q : Exit → Act → World → Prop} {l : SF} {w : World} {ops : Array Oper} {rest : List Oper}
variable {ty : TypeId} {pos : String} {aft : Array Edge} {d g : Nat} {x : Operand} {s : ByteArray} {p : Nat}
theorem Sl.rangeStr {t : TypeId} (ht : P.underlying t = some .string) (hx : evL l x = some (.string s)) (hd : Nat.blt d N.n = true)
    (h : ∀ w', w'.heap[w.heap.size]? = some (.stringIter s 0) → w'.heap.size = w.heap.size + 1 → Foot nob w w' → Sl P N ops Q rest ((d, .pointer (some ⟨w.heap.size, 0, none⟩)) :: l) w') :
    Sl P N ops Q (⟨some d, .range t x, ty, pos, aft, none⟩ :: rest) l w := by
  refine Sl.eff (w' := w.alloc (.stringIter s 0)) (fun a ha => ?_) hd (h _ (heap_alloc_new w _) (by simp) (Foot.alloc _ _ _))
  simp [execOp, ha.ev hx, Instr.range, run_underlying ht, newObj]; rfl
theorem Sl.nextT (hx : evL l x = some (.pointer (some ⟨g, 0, none⟩))) (hg : w.heap[g]? = some (.stringIter s p)) (hp : p < s.size) (hd : Nat.blt d N.n = true)
    (h : ∀ w', w'.heap[g]? = some (.stringIter s (p + (Utf8.decode s p).2)) → w'.heap.size = w.heap.size → Foot (· = g) w w' → Sl P N ops Q rest ((d, .tuple #[.bool true, .int .i64 p, .int .i32 (Utf8.decode s p).1]) :: l) w') :
    Sl P N ops Q (⟨some d, .next x true, ty, pos, aft, none⟩ :: rest) l w := by
  obtain ⟨s1, s2, s3⟩ := set_obj (o' := .stringIter s (p + (Utf8.decode s p).2)) hg
  refine Sl.eff (w' := ChangeMaps.setBlock w g (.stringIter s (p + (Utf8.decode s p).2))) (fun b hb => ?_) hd (h _ s1 s2 s3)
  simp [execOp, hb.ev hx, Instr.next, getObj, setObj, Sem.run, hg, hp, Result.andThen, ChangeMaps.setBlock, goInt]
theorem Sl.nextF (hx : evL l x = some (.pointer (some ⟨g, 0, none⟩))) (hg : w.heap[g]? = some (.stringIter s p)) (hp : ¬ p < s.size) (hd : Nat.blt d N.n = true)
    (h : Sl P N ops Q rest ((d, .tuple #[.bool false]) :: l) w) :
    Sl P N ops Q (⟨some d, .next x true, ty, pos, aft, none⟩ :: rest) l w := by
  refine Sl.eff (w' := w) (fun b hb => ?_) hd h
  simp [execOp, hb.ev hx, Instr.next, getObj, Sem.run, hg, hp, Result.andThen]
end

/-! runes -/
theorem bs_get (s : List UInt8) {i : Nat} (h : i < s.length) : (bs s).get! i = s[i] := by
  show (s.toArray)[i]! = _
  rw [getElem!_pos s.toArray i (by simpa using h)]; simp
theorem rune_at {s : List UInt8} {p : Nat} (hp : p < s.length) :
    1 ≤ (Utf8.decode (bs s) p).2 ∧ p + (Utf8.decode (bs s) p).2 ≤ s.length ∧ (Utf8.decode (bs s) p).1 < 1114112 ∧
    ((s.getD p 0).toNat < 128 → (Utf8.decode (bs s) p).1 = (s.getD p 0).toNat) ∧ (128 ≤ (s.getD p 0).toNat → 128 ≤ (Utf8.decode (bs s) p).1) ∧
    ∀ k, p < k → k < p + (Utf8.decode (bs s) p).2 → 128 ≤ (s.getD k 0).toNat := by
  have hz := bs_size s
  have e0 : (bs s).get! (p + 0) = s.getD p 0 := by rw [Nat.add_zero, bs_get s hp]; simp [List.getD, hp]
  have ek : ∀ k, p + k < s.length → (bs s).get! (p + k) = s.getD (p + k) 0 := fun k h => by rw [bs_get s h]; simp [List.getD, h]
  have b0 := (s.getD p 0).toNat_lt
  unfold Utf8.decode
  simp only [e0, hz]
  by_cases h1 : (s.getD p 0).toNat < 0x80
  · rw [if_pos h1]
    exact ⟨by simp, by simp; omega, by show (s.getD p 0).toNat < 1114112; omega, fun _ => rfl, fun h => by omega, fun k h2 h3 => by simp at h3; omega⟩
  · rw [if_neg h1]
    have bad : ∀ r : Nat × Nat, r = (Utf8.runeError, 1) → 1 ≤ r.2 ∧ p + r.2 ≤ s.length ∧ r.1 < 1114112 ∧ ((s.getD p 0).toNat < 128 → r.1 = (s.getD p 0).toNat) ∧ (128 ≤ (s.getD p 0).toNat → 128 ≤ r.1) ∧ ∀ k, p < k → k < p + r.2 → 128 ≤ (s.getD k 0).toNat := by
      rintro r rfl
      exact ⟨by simp, by simp; omega, by simp [Utf8.runeError], fun h => by omega, fun h => by simp [Utf8.runeError], fun k h2 h3 => by simp at h3; omega⟩
    have cont : ∀ k, (decide (p + k < s.length) && ((bs s).get! (p + k)).toNat / 64 == 2) = true → p + k < s.length ∧ 128 ≤ (s.getD (p + k) 0).toNat := fun k h => by
      simp only [Bool.and_eq_true, decide_eq_true_eq, beq_iff_eq] at h
      have := h.2
      rw [ek k h.1] at this
      exact ⟨h.1, by omega⟩
    split
    · rename_i h2
      rw [Bool.and_eq_true] at h2
      obtain ⟨c1, d1⟩ := cont 1 h2.2
      split
      · rename_i h3
        refine ⟨by simp, by simp; omega, ?_, fun h => by omega, fun _ => h3, fun k h4 h5 => ?_⟩
        · show _ < 1114112; omega
        · have h5 : k < p + 2 := h5
          have : k = p + 1 := by omega
          subst this; exact d1
      · exact bad _ rfl
    · split
      · rename_i h2
        simp only [Bool.and_eq_true] at h2
        obtain ⟨c1, d1⟩ := cont 1 (by simpa using h2.1.2)
        obtain ⟨c2, d2⟩ := cont 2 (by simpa using h2.2)
        split
        · rename_i h3
          simp only [Bool.and_eq_true, decide_eq_true_eq] at h3
          refine ⟨by simp, by simp; omega, ?_, fun h => by omega, fun _ => Nat.le_trans (by decide) h3.1, fun k h4 h5 => ?_⟩
          · show _ < 1114112; omega
          · have h5 : k < p + 3 := h5
            rcases (by omega : k = p + 1 ∨ k = p + 2) with rfl | rfl
            · exact d1
            · exact d2
        · exact bad _ rfl
      · split
        · rename_i h2
          simp only [Bool.and_eq_true] at h2
          obtain ⟨c1, d1⟩ := cont 1 (by simpa using h2.1.1.2)
          obtain ⟨c2, d2⟩ := cont 2 (by simpa using h2.1.2)
          obtain ⟨c3, d3⟩ := cont 3 (by simpa using h2.2)
          split
          · rename_i h3
            simp only [Bool.and_eq_true, decide_eq_true_eq, ge_iff_le] at h3
            refine ⟨by simp, by simp; omega, ?_, fun h => by omega, fun _ => Nat.le_trans (by decide) h3.1, fun k h4 h5 => ?_⟩
            · have h6 := h3.2
              simp only [Utf8.valid, Bool.or_eq_true, Bool.and_eq_true, decide_eq_true_eq] at h6
              show _ < 1114112
              omega
            · have h5 : k < p + 4 := h5
              rcases (by omega : k = p + 1 ∨ k = p + 2 ∨ k = p + 3) with rfl | rfl | rfl
              · exact d1
              · exact d2
              · exact d3
          · exact bad _ rfl
        · exact bad _ rfl
/-- up to here no byte 0, and none of a slash -/
def cleanTo (s : List UInt8) (p : Nat) : Prop := ∀ k, k < p → s.getD k 0 ≠ 0 ∧ s.getD k 0 ≠ 47
theorem clean_step {s : List UInt8} {p : Nat} (hp : p < s.length) (h : cleanTo s p) (h0 : (Utf8.decode (bs s) p).1 ≠ 0) (h47 : (Utf8.decode (bs s) p).1 ≠ 47) : cleanTo s (p + (Utf8.decode (bs s) p).2) := by
  obtain ⟨r1, r2, r3, r4, r5, r6⟩ := rune_at hp
  intro k hk
  by_cases hkp : k < p
  · exact h k hkp
  by_cases hkp2 : k = p
  · subst hkp2
    by_cases hlt : (s.getD k 0).toNat < 128
    · have e := r4 hlt
      exact ⟨fun h => h0 (by rw [e, h]; rfl), fun h => h47 (by rw [e, h]; rfl)⟩
    · exact ⟨fun h => by rw [h] at hlt; exact hlt (by decide), fun h => by rw [h] at hlt; exact hlt (by decide)⟩
  · have := r6 k (by omega) hk
    exact ⟨fun h => by rw [h] at this; revert this; decide, fun h => by rw [h] at this; revert this; decide⟩
theorem clean_mem {s : List UInt8} {p : Nat} (hp : p < s.length) {c : UInt8} (hc : c.toNat < 128) (h : (Utf8.decode (bs s) p).1 = c.toNat) : c ∈ s := by
  obtain ⟨r1, r2, r3, r4, r5, r6⟩ := rune_at hp
  by_cases hlt : (s.getD p 0).toNat < 128
  · have e := r4 hlt
    have : s.getD p 0 = c := UInt8.toNat_inj.1 (by omega)
    rw [← this]; simp [List.getD, hp]
  · have := r5 (by omega); omega
theorem clean_all {s : List UInt8} (h : cleanTo s s.length) : (0 : UInt8) ∉ s ∧ (47 : UInt8) ∉ s := by
  constructor
  · intro hm
    obtain ⟨i, hi, e⟩ := List.getElem_of_mem hm
    exact (h i hi).1 (by simp [List.getD, hi, e])
  · intro hm
    obtain ⟨i, hi, e⟩ := List.getElem_of_mem hm
    exact (h i hi).2 (by simp [List.getD, hi, e])
end Go.Proofs.Ytpamandneifemaa
