/- merge: what trees come to is a tree; a tree alone, and above itself; in plain Lean. No condition. -/
import Derived.Test.YtpamandneifemaaMgEk
namespace Go.Proofs.Ytpamandneifemaa
open Go Go.RowKit Go.Maps
set_option linter.unusedVariables false

theorem plc0_up {l : List Nd} (h : plc l = 0) : dirAt l [] ∧ ∀ n ∈ l, n.names ≠ [] → dirAt l n.names.dropLast := plc0_dirs h
theorem up_dirs {ps : List (NdH × Nd)} (h : plc (nds ps) = 0) {p : NdH × Nd} (hp : p ∈ ps) : ∀ (d n : Nat), n + d + 1 = p.2.names.length → ∃ q ∈ ps, q.2.names = p.2.names.take n ∧ q.2.kind = 1
  | 0, n, e => by
    obtain ⟨m, hm, h1, h2⟩ := (plc0_up h).2 p.2 (List.mem_map.2 ⟨p, hp, rfl⟩) (fun g => by rw [g] at e; simp at e)
    obtain ⟨q, hq, rfl⟩ := List.mem_map.1 hm
    exact ⟨q, hq, by rw [h1, drop_take]; congr 1; omega, h2⟩
  | d + 1, n, e => by
    obtain ⟨q, hq, h1, _⟩ := up_dirs h hp d (n + 1) (by omega)
    have hl : q.2.names.length = n + 1 := by rw [h1, List.length_take]; omega
    obtain ⟨m, hm, g1, g2⟩ := (plc0_up h).2 q.2 (List.mem_map.2 ⟨q, hq, rfl⟩) (fun g => by rw [g] at hl; simp at hl)
    obtain ⟨r, hr, rfl⟩ := List.mem_map.1 hm
    exact ⟨r, hr, by rw [g1, drop_take, hl, h1, List.take_take]; congr 1; omega, g2⟩
section
variable {Ls : Lys} {s : List (List UInt8)}
theorem scan_pre : ∀ {r out : List Nat}, ∃ x, scanL Ls s r out = out ++ x
  | [], out => ⟨[], by rw [scan_nil, List.append_nil]⟩
  | i :: r, out => by
    by_cases h0 : kAt Ls i s < 0
    · rw [scan_skip h0]; exact scan_pre
    · by_cases h1 : (nAt Ls i s).2.kind = 1
      · by_cases h2 : (nAt Ls i s).2.opq = true
        · rw [scan_opq h0 h1 h2]; exact ⟨[i], rfl⟩
        · rw [scan_dir h0 h1 h2]
          obtain ⟨x, hx⟩ := scan_pre (r := r) (out := out ++ [i])
          exact ⟨i :: x, by rw [hx, List.append_assoc]; rfl⟩
      · by_cases h3 : out = [] ∧ (nAt Ls i s).2.kind ≠ 4
        · rw [scan_one h0 h1 h3.1 h3.2]; exact ⟨[i], rfl⟩
        · rw [scan_stop h0 h1 h3]; exact ⟨[], by rw [List.append_nil]⟩
theorem scan_head {i : Nat} {r : List Nat} (h0 : ¬ kAt Ls i s < 0) (h1 : (nAt Ls i s).2.kind ≠ 4) : ∃ x, scanL Ls s (i :: r) [] = i :: x := by
  by_cases h2 : (nAt Ls i s).2.kind = 1
  · by_cases h3 : (nAt Ls i s).2.opq = true
    · rw [scan_opq h0 h2 h3]; exact ⟨[], rfl⟩
    · rw [scan_dir h0 h2 h3]
      obtain ⟨x, hx⟩ := scan_pre (Ls := Ls) (s := s) (r := r) (out := [] ++ [i])
      exact ⟨x, by rw [hx]; rfl⟩
  · rw [scan_one h0 h2 rfl h1]; exact ⟨[], rfl⟩
theorem scan_k4 {x : Nat} : ∀ {r out : List Nat}, x ∈ scanL Ls s r out → x ∈ out ∨ (nAt Ls x s).2.kind ≠ 4
  | [], out, h => .inl h
  | i :: r, out, h => by
    have hi : ∀ {y : Nat}, (nAt Ls i s).2.kind ≠ 4 → y ∈ out ++ [i] → y ∈ out ∨ (nAt Ls y s).2.kind ≠ 4 := fun hk hy => by
      rcases List.mem_append.1 hy with g | g
      · exact .inl g
      · rw [List.mem_singleton] at g; subst g; exact .inr hk
    by_cases h0 : kAt Ls i s < 0
    · rw [scan_skip h0] at h; exact scan_k4 h
    · by_cases h1 : (nAt Ls i s).2.kind = 1
      · have hk : (nAt Ls i s).2.kind ≠ 4 := by rw [h1]; decide
        by_cases h2 : (nAt Ls i s).2.opq = true
        · rw [scan_opq h0 h1 h2] at h; exact hi hk h
        · rw [scan_dir h0 h1 h2] at h
          rcases scan_k4 h with h | h
          · exact hi hk h
          · exact .inr h
      · by_cases h3 : out = [] ∧ (nAt Ls i s).2.kind ≠ 4
        · rw [scan_one h0 h1 h3.1 h3.2] at h; exact hi h3.2 h
        · rw [scan_stop h0 h1 h3] at h; exact .inl h
theorem srcs_k4 {x : Nat} (h : x ∈ srcs Ls s) : (nAt Ls x s).2.kind ≠ 4 := by
  by_cases hs : s = []
  · subst hs
    rw [srcs_nil] at h
    rcases scan_k4 h with h | h
    · cases h
    · exact h
  · rw [srcs_up hs] at h
    split at h
    · rcases scan_k4 h with h | h
      · cases h
      · exact h
    · cases h
end
theorem nAt_of {ps : List (NdH × Nd)} {rest : Lys} (ht : ¬ twiceL (nds ps)) {q : NdH × Nd} (hq : q ∈ ps) : ¬ kAt (ps :: rest) 0 q.2.names < 0 ∧ nAt (ps :: rest) 0 q.2.names = q := by
  have := nAt_in (Ls := ps :: rest) (i := 0) ht hq
  exact ⟨by omega, this.2⟩
/-- what stands in the first tree is seen there -/
theorem top0 {ps : List (NdH × Nd)} {rest : Lys} (h : plc (nds ps) = 0) (ht : ¬ twiceL (nds ps)) {p : NdH × Nd} (hp : p ∈ ps) (hk : p.2.kind ≠ 4) : (srcs (ps :: rest) p.2.names).head? = some 0 := by
  have key : ∀ n, n ≤ p.2.names.length → ∃ r, srcL (ps :: rest) p.2.names n = 0 :: r := by
    intro n
    induction n with
    | zero =>
      intro _
      have hr : ∃ q ∈ ps, q.2.names = [] ∧ q.2.kind ≠ 4 := by
        obtain ⟨m, hm, h1, h2⟩ := (plc0_up h).1
        obtain ⟨q, hq, rfl⟩ := List.mem_map.1 hm
        exact ⟨q, hq, h1, by rw [h2]; decide⟩
      obtain ⟨q, hq, h1, h2⟩ := hr
      obtain ⟨k1, k2⟩ := nAt_of (rest := rest) ht hq
      rw [h1] at k1 k2
      show ∃ r, scanL (ps :: rest) [] (List.range (rest.length + 1)) [] = 0 :: r
      rw [List.range_succ_eq_map]
      exact scan_head k1 (by rw [k2]; exact h2)
    | succ n ih =>
      intro hn
      obtain ⟨r, hr⟩ := ih (by omega)
      obtain ⟨q, hq, h1, h2⟩ := up_dirs h hp (p.2.names.length - n - 1) n (by omega)
      have hd : dirB (ps :: rest) (p.2.names.take n) (0 :: r) = true := by
        show decide _ = true
        rw [← h1, (nAt_of (rest := rest) ht hq).2, decide_eq_true h2]
      unfold srcL
      rw [hr, if_pos hd]
      by_cases he : n + 1 = p.2.names.length
      · rw [he, List.take_length]
        obtain ⟨k1, k2⟩ := nAt_of (rest := rest) ht hp
        exact scan_head k1 (by rw [k2]; exact hk)
      · obtain ⟨q2, hq2, g1, g2⟩ := up_dirs h hp (p.2.names.length - (n + 1) - 1) (n + 1) (by omega)
        obtain ⟨k1, k2⟩ := nAt_of (rest := rest) ht hq2
        rw [g1] at k1 k2
        exact scan_head k1 (by rw [k2, g2]; decide)
  obtain ⟨r, hr⟩ := key p.2.names.length (Nat.le_refl _)
  unfold srcs
  rw [hr]; rfl
theorem vis_k4 {Ls : Lys} (hg : GdA Ls) {i : Nat} {p : NdH × Nd} (hp : p ∈ lyA Ls i) (h : (srcs Ls p.2.names).head? = some i) : p.2.kind ≠ 4 := by
  have hm : i ∈ srcs Ls p.2.names := by
    rcases e : srcs Ls p.2.names with _ | ⟨j, r⟩
    · rw [e] at h; cases h
    · rw [e] at h; cases h; simp
  have := srcs_k4 hm
  rw [(nAt_in (hg.at i).tw hp).2] at this; exact this
def offP (p : NdH × Nd) : NdH × Nd := (p.1, { p.2 with opq := false })
theorem visN0 (p : NdH × Nd) : visN 0 p = offP p := by
  unfold visN offP cdI
  congr 1
  have : ((0 : Nat) : Int) * 18446744073709551616 + p.2.ino = p.2.ino := by omega
  rw [this]
theorem visI0 {ps : List (NdH × Nd)} {rest : Lys} (h : plc (nds ps) = 0) (hg : GdA (ps :: rest)) : visI (ps :: rest) 0 = (ps.filter (fun p => decide (p.2.kind ≠ 4))).map offP := by
  unfold visI
  have ht : ¬ twiceL (nds ps) := (hg.at 0).tw
  have e : (lyA (ps :: rest) 0).filter (fun p => decide ((srcs (ps :: rest) p.2.names).head? = some 0)) = ps.filter (fun p => decide (p.2.kind ≠ 4)) := by
    apply List.filter_congr
    intro p hp
    exact decide_eq_decide.2 ⟨fun g => vis_k4 hg (i := 0) hp g, fun g => top0 h ht hp g⟩
  rw [e]
  exact List.map_congr_left (fun p _ => visN0 p)
theorem one_vis {ps : List (NdH × Nd)} (h : plc (nds ps) = 0) (hg : GdA [ps]) : visL [ps] = (ps.filter (fun p => decide (p.2.kind ≠ 4))).map offP := by
  unfold visL
  show (List.range 1).flatMap _ = _
  rw [show List.range 1 = [0] from rfl, List.flatMap_singleton, visI0 h hg]
theorem same_vis {ps : List (NdH × Nd)} (h : plc (nds ps) = 0) (hg : GdA [ps, ps]) (hw : ∀ p ∈ ps, p.2.kind ≠ 4) : visL [ps, ps] = visL [ps] := by
  have hg1 : GdA [ps] := fun q hq => hg q (by rw [List.mem_singleton] at hq; rw [hq]; simp)
  have e1 : visI [ps, ps] 1 = [] := by
    rw [List.eq_nil_iff_forall_not_mem]
    intro x hx
    obtain ⟨p, hp, h1, _⟩ := visI_mem.1 hx
    have hp : p ∈ ps := hp
    have := top0 (rest := [ps]) h (hg.at 0).tw hp (hw p hp)
    rw [this] at h1; cases h1
  rw [one_vis h hg1]
  unfold visL
  show (List.range 2).flatMap _ = _
  rw [show List.range 2 = [0, 1] from rfl, List.flatMap_cons, List.flatMap_singleton, visI0 h hg, e1, List.append_nil]
/-! it is a tree -/
theorem lnkU_any {ps : List (NdH × Nd)} (h : (nds ps).Pairwise lnkU) {p q : NdH × Nd} (hp : p ∈ ps) (hq : q ∈ ps) (hne : p.2.names ≠ q.2.names) (he : p.2.ino = q.2.ino) : p.2.kind ≠ 1 ∧ Alk p.2 q.2 := by
  obtain ⟨i, hi⟩ := List.getElem?_of_mem hp
  obtain ⟨j, hj⟩ := List.getElem?_of_mem hq
  rcases Nat.lt_trichotomy i j with g | g | g
  · have := lnkU_at h g hi hj he.symm
    exact ⟨fun e => this.1 (by rw [this.2.2.1, e]), this.2.2.symm⟩
  · subst g; rw [hi] at hj; cases hj; exact absurd rfl hne
  · have := lnkU_at h g hj hi he
    exact ⟨this.1, this.2.2⟩
theorem mayN_ino {n : Nd} {z : Int} (h : mayN n) : mayN { n with ino := z } := h
theorem mayN_vis {n : Nd} {c : Int} (hm : mayU n) (hk : n.kind ≠ 4) : mayN { n with opq := false, ino := c } := by
  unfold mayU at hm
  rw [if_neg hk] at hm
  by_cases h1 : n.kind = 1
  · rw [if_pos h1] at hm; exact mayN_ino (z := c) hm
  · rw [if_neg h1] at hm
    exact ⟨hm.1, rfl, hm.2.2⟩
theorem vis_good {Ls : Lys} (hu : ∀ ps ∈ Ls, okU (nds ps)) (hg : GdA Ls) (hT : offL Ls Ls.length ≤ 1000) (hne : Ls ≠ []) : good (nds (visL Ls)) := by
  have huA : ∀ i, okU (nds (lyA Ls i)) ∨ lyA Ls i = [] := fun i => by
    unfold lyA
    by_cases hi : i < Ls.length
    · rw [List.getD, List.getElem?_eq_getElem hi]; exact .inl (hu _ (List.getElem_mem hi))
    · rw [List.getD, List.getElem?_eq_none (by omega)]; exact .inr rfl
  have huP : ∀ {i p}, p ∈ lyA Ls i → okU (nds (lyA Ls i)) := fun {i p} hp => (huA i).elim id (fun e => by rw [e] at hp; cases hp)
  have hmem : ∀ n ∈ nds (visL Ls), ∃ i p, i < Ls.length ∧ p ∈ lyA Ls i ∧ (srcs Ls p.2.names).head? = some i ∧ n = (visN i p).2 := fun n hn => by
    obtain ⟨x, hx, rfl⟩ := List.mem_map.1 hn
    obtain ⟨i, p, h1, h2, h3, rfl⟩ := visL_mem.1 hx
    exact ⟨i, p, h1, h2, h3, rfl⟩
  refine ⟨?_, ?_, ?_, ?_, ?_, ?_, ?_, ?_⟩
  · have := refL_len Ls Ls.length (Nat.le_refl _)
    rw [ref_ren hg, List.length_map] at this
    simp only [nds, List.length_map]; omega
  · intro n hn s hs
    obtain ⟨i, p, _, h2, _, rfl⟩ := hmem n hn
    exact ((hg.at i).nm h2).1 s hs
  · intro n hn
    obtain ⟨i, p, _, h2, _, rfl⟩ := hmem n hn
    exact ((hg.at i).nm h2).2
  · unfold nds; rw [List.pairwise_map]; exact visL_names hg
  · obtain ⟨ps, rest, rfl⟩ : ∃ ps rest, Ls = ps :: rest := by
      rcases Ls with _ | ⟨a, b⟩
      · exact absurd rfl hne
      · exact ⟨a, b, rfl⟩
    have h0 := (hu ps (by simp)).1
    obtain ⟨m, hm, h1, h2⟩ := (plc0_up h0).1
    obtain ⟨q, hq, rfl⟩ := List.mem_map.1 hm
    refine ⟨(visN 0 q).2, List.mem_map.2 ⟨visN 0 q, visL_mem.2 ⟨0, q, by simp, hq, top0 h0 (hg.at 0).tw hq (by rw [h2]; decide), rfl⟩, rfl⟩, h1, h2⟩
  · intro n hn hnn
    obtain ⟨i, p, hi, hp, h3, rfl⟩ := hmem n hn
    have hnn : p.2.names ≠ [] := hnn
    show dirAt _ p.2.names.dropLast
    rw [srcs_up hnn] at h3
    split at h3
    · rename_i hd
      rcases e : srcs Ls p.2.names.dropLast with _ | ⟨j, r⟩
      · rw [e] at hd; cases hd
      · rw [e] at hd
        have hk := of_decide_eq_true hd
        have hj := srcs_mem (Ls := Ls) (s := p.2.names.dropLast) (x := j) (by rw [e]; simp)
        have ha := nAt_mem hj.2
        exact ⟨(visN j (nAt Ls j p.2.names.dropLast)).2, List.mem_map.2 ⟨_, visL_mem.2 ⟨j, _, hj.1, ha.1, by rw [ha.2, e]; rfl, rfl⟩, rfl⟩, ha.2, hk⟩
    · cases h3
  · intro n hn
    obtain ⟨i, p, hi, hp, h3, rfl⟩ := hmem n hn
    exact mayN_vis ((huP hp).2.1 p.2 (List.mem_map.2 ⟨p, hp, rfl⟩)) (vis_k4 hg hp h3)
  · unfold nds
    rw [List.pairwise_map]
    refine (visL_names hg).imp_of_mem (fun {a b} ha hb hab => ?_)
    obtain ⟨i, p, _, hp, _, rfl⟩ := visL_mem.1 ha
    obtain ⟨j, q, _, hq, _, rfl⟩ := visL_mem.1 hb
    intro e
    have e : cdI j q.2.ino = cdI i p.2.ino := e
    obtain ⟨rfl, e2⟩ := cd_inj (okN_ino ((hg.at j).2.1 q hq)) (okN_ino ((hg.at i).2.1 p hp)) e
    have hl := lnkU_any (huP hp).2.2 hq hp (fun g => hab g.symm) e2
    exact ⟨hl.1, hl.2.1, hl.2.2.1, hl.2.2.2.1, rfl, hl.2.2.2.2.2.1, hl.2.2.2.2.2.2⟩
theorem may_sm {n : Nd} (h : mayN n) (hs : ∀ s ∈ n.names, vErr s = 0) : smN n := by
  have hb : (255 : Nat) ≤ maxLen := by unfold maxLen; decide
  refine ⟨?_, fun s hsm => by have := (vErr_ok (hs s hsm)).1; omega, fun x hx => ?_⟩
  · have ht := h.2.2.2.2.2.2.2.1
    unfold okT at ht
    split at ht
    · have := ht.2.1; omega
    · rw [ht]; exact Nat.zero_le _
  · have hx2 := h.2.2.2.2.2.2.2.2.1
    obtain ⟨i, hi⟩ := List.getElem?_of_mem hx
    have hil := (List.getElem?_eq_some_iff.1 hi).1
    have := (hx2 i hil).2.1
    rw [List.getD, hi] at this
    have this : x.1.length ≤ 40 := this
    omega
end Go.Proofs.Ytpamandneifemaa
