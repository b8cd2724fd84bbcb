/- tree: trees of the same nodes in another order, under other numbers, in plain Lean. No condition. -/
import Derived.Test.YtpamandneifemaaTzPk
namespace Go.Proofs.Ytpamandneifemaa
open Go Go.RowKit Go.Maps
set_option linter.unusedVariables false

/-! a tree, by what holds of it -/
def good (l : List Nd) : Prop := l.length ≤ 1024 ∧ (∀ n ∈ l, ∀ s ∈ n.names, vErr s = 0) ∧ (∀ n ∈ l, n.names.length ≤ 16) ∧ (l.Pairwise fun a b => a.names ≠ b.names) ∧ dirAt l [] ∧ (∀ n ∈ l, n.names ≠ [] → dirAt l n.names.dropLast) ∧ (∀ n ∈ l, mayN n) ∧ l.Pairwise lnkR
theorem chk0_iff (l : List Nd) : chk l = 0 ↔ good l := by
  constructor
  · intro h
    have h1 := chk_plc0 h
    have h2 := nmd_zero (plc_nmd0 h1)
    have h3 := plc0_dirs h1
    have hm : ¬ ∃ n ∈ l, ¬ mayN n := fun hm => by
      rw [chk_plc, h1, if_neg (show ¬ ((0 : Int) ≠ 0) from fun h => h rfl), if_pos hm] at h; cases h
    have hl : l.Pairwise lnkR := by
      apply Classical.byContradiction
      intro hl
      rw [chk_plc, h1, if_neg (show ¬ ((0 : Int) ≠ 0) from fun h => h rfl), if_neg hm, if_neg hl] at h; cases h
    exact ⟨chk_len h, fun n hn s hs => h2.1 s (List.mem_flatMap.2 ⟨n, hn, hs⟩), h2.2.1, Classical.not_not.1 h2.2.2, h3.1, h3.2, fun n hn => Classical.byContradiction fun h => hm ⟨n, hn, h⟩, hl⟩
  · rintro ⟨g1, g2, g3, g4, g5, g6, g7, g8⟩
    have e1 : nmErr (allNm l) = 0 := nmErr_zero fun s hs => by obtain ⟨n, hn, h⟩ := List.mem_flatMap.1 hs; exact g2 n hn s h
    have e2 : nmd l = 0 := by
      unfold nmd
      rw [if_neg (fun h => h e1), if_neg (fun ⟨n, hn, h⟩ => by have := g3 n hn; omega), if_neg (fun h => h g4)]
    have e3 : plc l = 0 := by
      unfold plc
      rw [if_neg (by omega), if_neg (fun h => h e2), if_neg (fun h => h g5), if_neg (fun ⟨n, hn, h1, h2⟩ => h2 (g6 n hn h1))]
    rw [chk_plc, e3, if_neg (show ¬ ((0 : Int) ≠ 0) from fun h => h rfl), if_neg (fun ⟨n, hn, h⟩ => h (g7 n hn)), if_pos g8]
theorem lnkR_symm {a b : Nd} (h : lnkR a b) : lnkR b a := fun e => by
  obtain ⟨h1, h2⟩ := h e.symm
  exact ⟨by rw [← h2.1]; exact h1, h2.symm⟩
theorem dirAt_perm {l m : List Nd} (h : l.Perm m) {s : List (List UInt8)} (hd : dirAt l s) : dirAt m s := by
  obtain ⟨n, hn, h1, h2⟩ := hd
  exact ⟨n, h.mem_iff.1 hn, h1, h2⟩
theorem good_perm {l m : List Nd} (h : l.Perm m) (g : good l) : good m := by
  obtain ⟨g1, g2, g3, g4, g5, g6, g7, g8⟩ := g
  exact ⟨by rw [← h.length_eq]; exact g1, fun n hn => g2 n (h.mem_iff.2 hn), fun n hn => g3 n (h.mem_iff.2 hn), (h.pairwise_iff (fun h e => h e.symm)).1 g4, dirAt_perm h g5, fun n hn hne => dirAt_perm h (g6 n (h.mem_iff.2 hn) hne), fun n hn => g7 n (h.mem_iff.2 hn), (h.pairwise_iff (fun h => lnkR_symm h)).1 g8⟩
/-- under other numbers -/
def renI (f : Int → Int) (n : Nd) : Nd := { n with ino := f n.ino }
def InjOn (f : Int → Int) (zs : List Int) : Prop := ∀ a ∈ zs, ∀ b ∈ zs, f a = f b → a = b
theorem dirAt_ren {f : Int → Int} {l : List Nd} {s : List (List UInt8)} : dirAt (l.map (renI f)) s ↔ dirAt l s := by
  constructor
  · rintro ⟨n, hn, h1, h2⟩
    obtain ⟨m, hm, rfl⟩ := List.mem_map.1 hn
    exact ⟨m, hm, h1, h2⟩
  · rintro ⟨n, hn, h1, h2⟩
    exact ⟨renI f n, List.mem_map.2 ⟨n, hn, rfl⟩, h1, h2⟩
theorem good_ren {f : Int → Int} {l : List Nd} (hf : InjOn f (l.map (·.ino))) : good (l.map (renI f)) ↔ good l := by
  have hp : ∀ {R R' : Nd → Nd → Prop}, (∀ a ∈ l, ∀ b ∈ l, R (renI f a) (renI f b) ↔ R' a b) → ((l.map (renI f)).Pairwise R ↔ l.Pairwise R') := fun {R R'} h => by
    rw [List.pairwise_map]
    exact ⟨fun g => g.imp_of_mem (fun ha hb => (h _ ha _ hb).1), fun g => g.imp_of_mem (fun ha hb => (h _ ha _ hb).2)⟩
  have hl : (l.map (renI f)).Pairwise lnkR ↔ l.Pairwise lnkR := hp fun a ha b hb => by
    unfold lnkR
    constructor
    · intro h e; exact h (by show f b.ino = f a.ino; rw [e])
    · intro h e; exact h (hf _ (List.mem_map.2 ⟨b, hb, rfl⟩) _ (List.mem_map.2 ⟨a, ha, rfl⟩) e)
  have hn : ((l.map (renI f)).Pairwise fun a b => a.names ≠ b.names) ↔ l.Pairwise fun a b => a.names ≠ b.names := hp fun a _ b _ => Iff.rfl
  unfold good
  rw [hl, hn, List.length_map, dirAt_ren]
  simp only [List.forall_mem_map, dirAt_ren]
  exact Iff.rfl
theorem fold_map {f : Int → Int} : ∀ (zs s : List Int), InjOn f (s ++ zs) → (zs.map f).foldl addS (s.map f) = (zs.foldl addS s).map f
  | [], s, _ => rfl
  | z :: zs, s, hf => by
    have hm : f z ∈ s.map f ↔ z ∈ s := by
      constructor
      · intro h
        obtain ⟨x, hx, e⟩ := List.mem_map.1 h
        have := hf x (by simp [hx]) z (by simp) e
        rw [← this]; exact hx
      · intro h; exact List.mem_map.2 ⟨z, h, rfl⟩
    have e : addS (s.map f) (f z) = (addS s z).map f := by
      unfold addS
      by_cases h : z ∈ s
      · rw [if_pos (hm.2 h), if_pos h]
      · rw [if_neg (fun g => h (hm.1 g)), if_neg h, List.map_append, List.map_singleton]
    rw [List.map_cons, List.foldl_cons, List.foldl_cons, e]
    refine fold_map zs (addS s z) (fun a ha b hb h => hf a ?_ b ?_ h)
    · rw [List.mem_append, addS_mem] at ha
      rw [List.mem_append, List.mem_cons]
      rcases ha with (h1 | h1) | h1
      · exact .inl h1
      · exact .inr (.inl h1)
      · exact .inr (.inr h1)
    · rw [List.mem_append, addS_mem] at hb
      rw [List.mem_append, List.mem_cons]
      rcases hb with (h1 | h1) | h1
      · exact .inl h1
      · exact .inr (.inl h1)
      · exact .inr (.inr h1)
theorem seen_map {f : Int → Int} {zs : List Int} (hf : InjOn f zs) : seenOf (zs.map f) = (seenOf zs).map f := fold_map zs [] hf
theorem idx_map {f : Int → Int} {z : Int} : ∀ {L : List Int}, (∀ x ∈ L, f x = f z → x = z) → (L.map f).idxOf (f z) = L.idxOf z
  | [], _ => rfl
  | x :: L, h => by
    by_cases e : x = z
    · subst e; rw [List.map_cons, List.idxOf_cons_self, List.idxOf_cons_self]
    · have e2 : f x ≠ f z := fun g => e (h x (by simp) g)
      rw [List.map_cons, List.idxOf_cons, List.idxOf_cons, idx_map (fun y hy => h y (by simp [hy])), beq_false_of_ne e, beq_false_of_ne e2]
theorem numZ_map {f : Int → Int} {zs : List Int} (hf : InjOn f zs) {z : Int} (hz : z ∈ zs) : numZ (zs.map f) (f z) = numZ zs z := by
  unfold numZ
  rw [seen_map hf, idx_map (fun x hx e => hf x (seen_mem.1 hx) z hz e)]
theorem numZ_inj (zs : List Int) : InjOn (numZ zs) zs := fun a ha b hb h => by
  unfold numZ at h
  have h1 := List.idxOf_lt_length_iff.2 (seen_mem.2 ha)
  have h2 := List.idxOf_lt_length_iff.2 (seen_mem.2 hb)
  have e : (seenOf zs).idxOf a = (seenOf zs).idxOf b := by omega
  have g1 := List.getElem_idxOf h1
  have g2 := List.getElem_idxOf h2
  rw [← g1, ← g2]
  exact getElem_congr_idx e
def renQ (f : Int → Int) (p : NdH × Nd) : NdH × Nd := (p.1, renI f p.2)
theorem nds_ren (f : Int → Int) (ps : List (NdH × Nd)) : nds (ps.map (renQ f)) = (nds ps).map (renI f) := by simp [nds, renQ, Function.comp_def]
theorem inos_ren (f : Int → Int) (ps : List (NdH × Nd)) : inosOf (ps.map (renQ f)) = (inosOf ps).map f := by simp [inosOf, renQ, renI, Function.comp_def]
theorem num_ren {f : Int → Int} {L : List (NdH × Nd)} (hf : InjOn f (inosOf L)) : numP (L.map (renQ f)) = numP L := by
  unfold numP
  rw [inos_ren, List.map_map]
  apply List.map_congr_left
  intro p hp
  have hm : p.2.ino ∈ inosOf L := List.mem_map.2 ⟨p, hp, rfl⟩
  show ((p.1, { p.2 with ino := numZ ((inosOf L).map f) (f p.2.ino) }) : NdH × Nd) = _
  rw [numZ_map hf hm]; rfl
theorem ord_ren {f : Int → Int} {L : List (NdH × Nd)} (h : L.Pairwise ordP) : (L.map (renQ f)).Pairwise ordP := by
  rw [List.pairwise_map]; exact h
theorem inj_perm {f : Int → Int} {a b : List Int} (h : a.Perm b) (hf : InjOn f a) : InjOn f b := fun x hx y hy e => hf x (h.mem_iff.2 hx) y (h.mem_iff.2 hy) e
/-- another order, other numbers: the same in order -/
theorem can_ren {f : Int → Int} {ps qs : List (NdH × Nd)} (hp : qs.Perm (ps.map (renQ f))) (hf : InjOn f (inosOf ps)) (ht : ¬ twiceL (nds qs)) : canP qs = canP ps := by
  have h1 : (srtP ps).map (renQ f) = srtP qs := srt_uniq ht (((srt_perm ps).map _).trans hp.symm) (ord_ren (srt_ord ps))
  unfold canP
  rw [← h1, num_ren]
  exact inj_perm ((srt_perm ps).symm.map _) hf
theorem good_of {f : Int → Int} {ps qs : List (NdH × Nd)} (hp : qs.Perm (ps.map (renQ f))) (hf : InjOn f (inosOf ps)) : good (nds qs) ↔ good (nds ps) := by
  have h1 : (nds qs).Perm ((nds ps).map (renI f)) := by rw [← nds_ren]; exact hp.map _
  have h2 : InjOn f ((nds ps).map (·.ino)) := by
    have e : (nds ps).map (·.ino) = inosOf ps := by simp [nds, inosOf, Function.comp_def]
    rw [e]; exact hf
  constructor
  · intro g; exact (good_ren h2).1 (good_perm h1 g)
  · intro g; exact good_perm h1.symm ((good_ren h2).2 g)
/-- what is in order stays -/
theorem can_good {ps : List (NdH × Nd)} (g : good (nds ps)) : good (nds (canP ps)) := by
  have e : canP ps = (srtP ps).map (renQ (numZ (inosOf (srtP ps)))) := rfl
  refine (good_of (f := numZ (inosOf (srtP ps))) (ps := srtP ps) (by rw [e]) (numZ_inj _)).2 ?_
  exact good_perm ((srt_perm ps).symm.map _) g
theorem can_ord (ps : List (NdH × Nd)) : (canP ps).Pairwise ordP := ord_ren (f := numZ (inosOf (srtP ps))) (srt_ord ps)
theorem ord_nds {a b : List (NdH × Nd)} (e : nds a = nds b) (h : b.Pairwise ordP) : a.Pairwise ordP := by
  have h1 : (nds b).Pairwise (fun p q => lessN q.names p.names = false) := by unfold nds; rw [List.pairwise_map]; exact h
  rw [← e] at h1
  unfold nds at h1
  rw [List.pairwise_map] at h1; exact h1
theorem can_again {ps qs : List (NdH × Nd)} (g : good (nds ps)) (hq : nds qs = nds (canP ps)) : nds (canP qs) = nds qs := by
  have gq : good (nds qs) := by rw [hq]; exact can_good g
  have ht : ¬ twiceL (nds qs) := fun h => h gq.2.2.2.1
  have hs : srtP qs = qs := (srt_uniq ht (List.Perm.refl _) (ord_nds hq (can_ord ps))).symm
  unfold canP
  rw [hs]
  obtain ⟨Z, hZ⟩ : ∃ Z, Z = inosOf (srtP ps) := ⟨_, rfl⟩
  have hi : inosOf qs = Z.map (numZ Z) := by
    have e1 : inosOf qs = (nds qs).map (·.ino) := by simp [nds, inosOf, Function.comp_def]
    have e2 : (nds (canP ps)).map (·.ino) = Z.map (numZ Z) := by rw [hZ]; simp [nds, canP, numP, renP, inosOf, Function.comp_def]
    rw [e1, hq, e2]
  unfold nds numP
  rw [List.map_map]
  apply List.map_congr_left
  intro p hp
  have hm : p.2.ino ∈ Z.map (numZ Z) := by rw [← hi]; exact List.mem_map.2 ⟨p, hp, rfl⟩
  obtain ⟨z, hz, e⟩ := List.mem_map.1 hm
  show ({ p.2 with ino := numZ (inosOf qs) p.2.ino } : Nd) = p.2
  rw [hi, ← e, numZ_map (numZ_inj Z) hz, e]
end Go.Proofs.Ytpamandneifemaa
