/- tree: trees that were put in order, in plain Lean. No condition. -/
import Derived.Test.YtpamandneifemaaKH
namespace Go.Proofs.Ytpamandneifemaa
open Go Go.RowKit Go.Maps
set_option linter.unusedVariables false

theorem twice_perm {ps qs : List (NdH × Nd)} (h : qs.Perm ps) (ht : ¬ twiceL (nds ps)) : ¬ twiceL (nds qs) := by
  unfold twiceL at *
  rw [Classical.not_not] at *
  exact ((h.map (·.2)).pairwise_iff (R := fun a b : Nd => a.names ≠ b.names) (fun h e => h e.symm)).2 ht
theorem srt_lt {ps : List (NdH × Nd)} (ht : ¬ twiceL (nds ps)) {i j : Nat} {p q : NdH × Nd} (hij : i < j) (hp : (srtP ps)[i]? = some p) (hq : (srtP ps)[j]? = some q) : lessN p.2.names q.2.names = true := by
  have e1 := List.getElem?_eq_some_iff.1 hp
  have e2 := List.getElem?_eq_some_iff.1 hq
  have h := List.pairwise_iff_getElem.1 (srt_ord ps) i j e1.1 e2.1 hij
  rw [e1.2, e2.2] at h
  rcases lessN_not.1 h with e | h
  · exact absurd ((twice_iff (srtP ps)).2 ⟨i, j, p, q, hij, hp, hq, e.symm⟩) (twice_perm (srt_perm ps) ht)
  · exact h
theorem can_at {ps qs : List (NdH × Nd)} (hq : nds qs = nds (canP ps)) {i : Nat} {q : NdH × Nd} (h : qs[i]? = some q) : ∃ p, (srtP ps)[i]? = some p ∧ q.2 = (renP (inosOf (srtP ps)) p).2 := by
  have h1 := nds_get h
  rw [hq] at h1
  simp only [nds, canP, numP, List.getElem?_map, Option.map_eq_some_iff] at h1
  obtain ⟨a, ⟨p, hp, e⟩, e2⟩ := h1
  exact ⟨p, hp, by rw [← e2, ← e]⟩
theorem can_of {ps qs : List (NdH × Nd)} (hq : nds qs = nds (canP ps)) {i : Nat} {p : NdH × Nd} (h : (srtP ps)[i]? = some p) : ∃ q, qs[i]? = some q ∧ q.2 = (renP (inosOf (srtP ps)) p).2 := by
  have hl : qs.length = (srtP ps).length := by have := congrArg List.length hq; simpa [nds, canP, numP] using this
  have hi := (List.getElem?_eq_some_iff.1 h).1
  obtain ⟨q, hqi⟩ : ∃ q, qs[i]? = some q := ⟨_, List.getElem?_eq_getElem (by omega)⟩
  obtain ⟨p', hp', e⟩ := can_at hq hqi
  rw [h] at hp'; cases hp'
  exact ⟨q, hqi, e⟩
theorem can_len {ps qs : List (NdH × Nd)} (hq : nds qs = nds (canP ps)) : qs.length = ps.length := by
  have := congrArg List.length hq
  have h2 := (srt_perm ps).length_eq
  simp [nds, canP, numP] at this
  omega
theorem can_lt {ps qs : List (NdH × Nd)} (ht : ¬ twiceL (nds ps)) (hq : nds qs = nds (canP ps)) {i j : Nat} {p q : NdH × Nd} (hij : i < j) (hp : qs[i]? = some p) (h : qs[j]? = some q) : lessN p.2.names q.2.names = true := by
  obtain ⟨a, ha, e1⟩ := can_at hq hp
  obtain ⟨b, hb, e2⟩ := can_at hq h
  have := srt_lt ht hij ha hb
  rw [e1, e2]; exact this
theorem less_nilN (a : List (List UInt8)) : lessN a [] = false := by cases a <;> rfl
theorem plc0_dirs {l : List Nd} (h : plc l = 0) : dirAt l [] ∧ ∀ n ∈ l, n.names ≠ [] → dirAt l n.names.dropLast := by
  unfold plc at h
  by_cases h0 : 1024 < l.length
  · rw [if_pos h0] at h; cases h
  · rw [if_neg h0] at h
    by_cases h1 : nmd l = 0
    · rw [if_neg (fun g => g h1)] at h
      by_cases h2 : dirAt l []
      · rw [if_neg (fun g => g h2)] at h
        by_cases h3 : ∃ n ∈ l, n.names ≠ [] ∧ ¬ dirAt l n.names.dropLast
        · rw [if_pos h3] at h; cases h
        · exact ⟨h2, fun n hn hne => Classical.byContradiction fun hd => h3 ⟨n, hn, hne, hd⟩⟩
      · rw [if_pos h2] at h; cases h
    · rw [if_pos h1] at h; exact absurd h h1
theorem can_dir {ps qs : List (NdH × Nd)} (hq : nds qs = nds (canP ps)) {s : List (List UInt8)} (h : dirAt (nds ps) s) : ∃ (k : Nat) (r : NdH × Nd), qs[k]? = some r ∧ r.2.names = s ∧ r.2.kind = 1 := by
  obtain ⟨n, hn, h1, h2⟩ := h
  obtain ⟨p, hp, rfl⟩ := List.mem_map.1 hn
  obtain ⟨k, hk⟩ := List.getElem?_of_mem ((srt_perm ps).mem_iff.2 hp)
  obtain ⟨r, hr, e⟩ := can_of hq hk
  exact ⟨k, r, hr, by rw [e]; exact h1, by rw [e]; exact h2⟩
theorem can_root {ps qs : List (NdH × Nd)} (hz : chk (nds ps) = 0) (hq : nds qs = nds (canP ps)) {q : NdH × Nd} (h : qs[0]? = some q) : q.2.names = [] := by
  obtain ⟨k, r, hr, h1, _⟩ := can_dir hq (plc0_dirs (chk_plc0 hz)).1
  by_cases hk : k = 0
  · subst hk; rw [hr] at h; cases h; exact h1
  · have := can_lt (chk_twice hz) hq (show 0 < k by omega) h hr
    rw [h1, less_nilN] at this; cases this
theorem less_drop {s : List (List UInt8)} (h : s ≠ []) : lessN s.dropLast s = true := by
  have e : s = s.dropLast ++ [s.getLast h] := (List.dropLast_concat_getLast h).symm
  have : cmpL s.dropLast s = cmpL [] [s.getLast h] := by
    conv => lhs; rw [e]
    have := cmpL_app s.dropLast [] [s.getLast h]
    rw [List.append_nil] at this
    rw [List.dropLast_concat]; exact this
  unfold lessN; rw [this]; rfl
theorem can_up {ps qs : List (NdH × Nd)} (hz : chk (nds ps) = 0) (hq : nds qs = nds (canP ps)) {i : Nat} {q : NdH × Nd} (h : qs[i]? = some q) (hne : q.2.names ≠ []) : ∃ (k : Nat) (r : NdH × Nd), k < i ∧ qs[k]? = some r ∧ r.2.names = q.2.names.dropLast ∧ r.2.kind = 1 := by
  obtain ⟨p, hp, e⟩ := can_at hq h
  have hpm : p.2 ∈ nds ps := List.mem_map.2 ⟨p, (srt_perm ps).mem_iff.1 (List.mem_of_getElem? hp), rfl⟩
  have en : q.2.names = p.2.names := by rw [e]; rfl
  obtain ⟨k, r, hr, h1, h2⟩ := can_dir hq ((plc0_dirs (chk_plc0 hz)).2 p.2 hpm (by rw [← en]; exact hne))
  refine ⟨k, r, ?_, hr, by rw [h1, en], h2⟩
  apply Classical.byContradiction
  intro hk
  have hl := less_drop hne
  rw [en, ← h1, ← en] at hl
  by_cases e2 : k = i
  · subst e2; rw [h] at hr; cases hr; rw [lessN_irr] at hl; cases hl
  · have := can_lt (chk_twice hz) hq (show i < k by omega) h hr
    rw [lessN_asym hl] at this; cases this
def seenN (ps : List (NdH × Nd)) (i : Nat) : Nat := (seenOf (inosOf ((srtP ps).take i))).length
theorem can_ino {ps qs : List (NdH × Nd)} (hq : nds qs = nds (canP ps)) {i : Nat} {q : NdH × Nd} (h : qs[i]? = some q) : 1 ≤ q.2.ino ∧ q.2.ino ≤ (seenN ps i : Int) + 1 ∧ ((seenN ps (i + 1) : Nat) : Int) = if (seenN ps i : Int) < q.2.ino then q.2.ino else (seenN ps i : Int) := by
  obtain ⟨p, hp, e⟩ := can_at hq h
  have ei : q.2.ino = numZ (inosOf (srtP ps)) p.2.ino := by rw [e]; rfl
  rw [ei]
  refine ⟨numZ_pos _ _, ?_⟩
  unfold seenN
  rw [inos_tk hp]
  by_cases hm : p.2.ino ∈ inosOf ((srtP ps).take i)
  · have h1 : numZ (inosOf (srtP ps)) p.2.ino ≤ ((seenOf (inosOf ((srtP ps).take i))).length : Int) := by
      obtain ⟨r, hr⟩ := seen_app (inosOf ((srtP ps).take i)) (p.2.ino :: inosOf ((srtP ps).drop (i + 1)))
      rw [inos_split hp]
      unfold numZ
      rw [hr, List.idxOf_append, if_pos (seen_mem.2 hm)]
      have := List.idxOf_lt_length_iff.2 (seen_mem.2 hm)
      omega
    rw [seen_len_old hm]; exact ⟨by omega, by rw [if_neg (by omega)]⟩
  · have h1 : numZ (inosOf (srtP ps)) p.2.ino = ((seenOf (inosOf ((srtP ps).take i))).length : Nat) + 1 := by rw [inos_split hp, numZ_new hm]
    rw [seen_len_new hm, h1]; exact ⟨by omega, by rw [if_pos (by omega)]; omega⟩
theorem seenN_le {ps : List (NdH × Nd)} (h : ps.length ≤ 60) (i : Nat) : (seenN ps i : Int) ≤ 60 := by
  have h1 := seen_le (inosOf ((srtP ps).take i))
  have h2 : (inosOf ((srtP ps).take i)).length ≤ (srtP ps).length := by unfold inosOf; rw [List.length_map, List.length_take]; omega
  have h3 := (srt_perm ps).length_eq
  unfold seenN; omega
def upA (qs : List (NdH × Nd)) (q : NdH × Nd) (k : Nat) : Prop := q.2.names = [] ∨ ∃ (j : Nat) (r : NdH × Nd), j < k ∧ qs[j]? = some r ∧ r.2.names = q.2.names.dropLast ∧ r.2.kind = 1
theorem upA_succ {qs : List (NdH × Nd)} {q r : NdH × Nd} {k : Nat} (hr : qs[k]? = some r) : upA qs q (k + 1) ↔ upA qs q k ∨ (r.2.names = q.2.names.dropLast ∧ r.2.kind = 1) := by
  unfold upA
  constructor
  · rintro (h | ⟨j, s, hj, hs, h1, h2⟩)
    · exact .inl (.inl h)
    · by_cases e : j = k
      · subst e; rw [hr] at hs; cases hs; exact .inr ⟨h1, h2⟩
      · exact .inl (.inr ⟨j, s, by omega, hs, h1, h2⟩)
  · rintro ((h | ⟨j, s, hj, hs, h1, h2⟩) | ⟨h1, h2⟩)
    · exact .inl h
    · exact .inr ⟨j, s, by omega, hs, h1, h2⟩
    · exact .inr ⟨k, r, by omega, hr, h1, h2⟩
end Go.Proofs.Ytpamandneifemaa
