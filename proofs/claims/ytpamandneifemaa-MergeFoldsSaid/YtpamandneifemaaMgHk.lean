/- merge: what an Opaque root hides, and what an empty tree does not, in plain Lean. No condition. -/
import Derived.Test.YtpamandneifemaaMgLk
namespace Go.Proofs.Ytpamandneifemaa
open Go Go.RowKit Go.Maps
set_option linter.unusedVariables false

theorem nmd_names {l m : List Nd} (h : l.map (·.names) = m.map (·.names)) : nmd l = nmd m := by
  have h1 : allNm l = allNm m := by unfold allNm; rw [List.flatMap_def, List.flatMap_def, h]
  have h2 : (∃ n ∈ l, 16 < n.names.length) ↔ (∃ n ∈ m, 16 < n.names.length) := by
    have k : ∀ q : List Nd, (∃ n ∈ q, 16 < n.names.length) ↔ ∃ s ∈ q.map (·.names), 16 < s.length := fun q => ⟨fun ⟨n, hn, h⟩ => ⟨_, List.mem_map.2 ⟨n, hn, rfl⟩, h⟩, fun ⟨s, hs, h⟩ => by
      obtain ⟨n, hn, rfl⟩ := List.mem_map.1 hs
      exact ⟨n, hn, h⟩⟩
    rw [k, k, h]
  have h3 : twiceL l ↔ twiceL m := by
    have k : ∀ q : List Nd, twiceL q ↔ ¬ (q.map (·.names)).Pairwise (· ≠ ·) := fun q => by unfold twiceL; rw [List.pairwise_map]
    rw [k, k, h]
  unfold nmd
  rw [h1]
  simp only [h2, h3]
section
variable {Ls Ms : Lys} {s : List (List UInt8)}
theorem kAt_cong {i j : Nat} (h : lyA Ls i = lyA Ms j) : kAt Ls i s = kAt Ms j s := by unfold kAt; rw [h]
theorem nAt_cong {i j : Nat} (h : lyA Ls i = lyA Ms j) : nAt Ls i s = nAt Ms j s := by unfold nAt kAt; rw [h]
theorem scan_cong : ∀ {r out : List Nat}, (∀ x ∈ r, lyA Ls x = lyA Ms x) → scanL Ls s r out = scanL Ms s r out
  | [], out, _ => rfl
  | i :: r, out, h => by
    have hi := h i (by simp)
    have ih : ∀ out, scanL Ls s r out = scanL Ms s r out := fun out => scan_cong (fun x hx => h x (by simp [hx]))
    unfold scanL
    rw [kAt_cong hi, nAt_cong hi, ih, ih]
theorem dirB_cong {o : List Nat} (h : ∀ x ∈ o, lyA Ls x = lyA Ms x) : dirB Ls s o = dirB Ms s o := by
  cases o with
  | nil => rfl
  | cons i r => show decide _ = decide _; rw [nAt_cong (h i (by simp))]
theorem scan_shift {em : List (NdH × Nd)} : ∀ {r out : List Nat}, scanL (em :: Ls) s (r.map (· + 1)) (out.map (· + 1)) = (scanL Ls s r out).map (· + 1)
  | [], out => rfl
  | i :: r, out => by
    have hi : lyA (em :: Ls) (i + 1) = lyA Ls i := rfl
    have e1 : out.map (· + 1) ++ [i + 1] = (out ++ [i]).map (· + 1) := by simp
    have e2 : (out.map (· + 1) = [] ∧ (nAt Ls i s).2.kind ≠ 4) ↔ (out = [] ∧ (nAt Ls i s).2.kind ≠ 4) := by simp
    rw [List.map_cons]
    unfold scanL
    rw [kAt_cong hi, nAt_cong hi, e1, scan_shift, scan_shift]
    split
    · rfl
    · split
      · split
        · rfl
        · rfl
      · by_cases h : out = [] ∧ (nAt Ls i s).2.kind ≠ 4
        · rw [if_pos h, if_pos (e2.2 h)]
        · rw [if_neg h, if_neg (fun g => h (e2.1 g))]
theorem dirB_shift {em : List (NdH × Nd)} {o : List Nat} : dirB (em :: Ls) s (o.map (· + 1)) = dirB Ls s o := by
  cases o with
  | nil => rfl
  | cons i r => show decide _ = decide _; rw [nAt_cong (show lyA (em :: Ls) (i + 1) = lyA Ls i from rfl)]
/-- behind one that is there -/
theorem scan_out : ∀ {r : List Nat} {a : Nat} {o : List Nat}, scanL Ls s r (a :: o) = a :: o ++ if dirB Ls s (scanL Ls s r []) = true then scanL Ls s r [] else []
  | [], a, o => by rw [scan_nil, scan_nil]; simp [dirB]
  | i :: r, a, o => by
    by_cases h0 : kAt Ls i s < 0
    · rw [scan_skip h0, scan_skip h0]; exact scan_out
    · by_cases h1 : (nAt Ls i s).2.kind = 1
      · by_cases h2 : (nAt Ls i s).2.opq = true
        · rw [scan_opq h0 h1 h2, scan_opq h0 h1 h2]
          have : dirB Ls s ([] ++ [i]) = true := by show decide _ = true; rw [decide_eq_true h1]
          rw [if_pos this]; rfl
        · rw [scan_dir h0 h1 h2, scan_dir h0 h1 h2]
          have e1 := scan_out (r := r) (a := a) (o := o ++ [i])
          have e2 := scan_out (r := r) (a := i) (o := [])
          have : dirB Ls s (scanL Ls s r ([] ++ [i])) = true := by
            show dirB Ls s (scanL Ls s r [i]) = true
            rw [e2]; show decide _ = true; rw [decide_eq_true h1]
          rw [if_pos this]
          show scanL Ls s r (a :: (o ++ [i])) = a :: o ++ scanL Ls s r [i]
          rw [e1, e2]; simp
      · have h3 : ¬ (a :: o = [] ∧ (nAt Ls i s).2.kind ≠ 4) := fun g => by cases g.1
        rw [scan_stop h0 h1 h3]
        have : dirB Ls s (scanL Ls s (i :: r) []) = false := by
          by_cases h4 : (nAt Ls i s).2.kind ≠ 4
          · rw [scan_one h0 h1 rfl h4]; show decide _ = false; rw [decide_eq_false h1]
          · rw [scan_stop h0 h1 (fun g => h4 g.2)]; rfl
        rw [this]; simp
end
/-! an Opaque root -/
def opR (p : NdH × Nd) : NdH × Nd := (p.1, if p.2.names = [] then { p.2 with opq := true } else p.2)
theorem opR_names (p : NdH × Nd) : (opR p).2.names = p.2.names := by unfold opR; simp only; split <;> rfl
theorem opR_gd {ps : List (NdH × Nd)} (h : GdL ps) : GdL (ps.map opR) := by
  refine ⟨?_, ?_, by rw [List.length_map]; exact h.2.2⟩
  · rw [← h.1]
    refine nmd_names ?_
    unfold nds
    rw [List.map_map, List.map_map, List.map_map]
    exact List.map_congr_left (fun p _ => opR_names p)
  · intro q hq
    obtain ⟨p, hp, rfl⟩ := List.mem_map.1 hq
    have := h.2.1 p hp
    unfold opR; simp only; split
    · exact this
    · exact this
theorem hide_src {f : List (NdH × Nd)} {rest : Lys} (ht : ¬ twiceL (nds f)) (hr : ∃ q ∈ f, q.2.names = [] ∧ q.2.kind = 1 ∧ q.2.opq = true) (s : List (List UInt8)) : ∀ n, srcL (f :: rest) s n = srcL [f] s n
  | 0 => by
    obtain ⟨q, hq, h1, h2, h3⟩ := hr
    have key : ∀ rest : Lys, srcL (f :: rest) s 0 = [0] := fun rest => by
      obtain ⟨k1, k2⟩ := nAt_of (rest := rest) ht hq
      rw [h1] at k1 k2
      show scanL (f :: rest) [] (List.range (rest.length + 1)) [] = [0]
      rw [List.range_succ_eq_map, scan_opq k1 (by rw [k2]; exact h2) (by rw [k2]; exact h3)]; rfl
    rw [key, key]
  | n + 1 => by
    have ih := hide_src (rest := rest) ht hr s n
    have hc : ∀ x ∈ srcL [f] s n, lyA (f :: rest) x = lyA [f] x := fun x hx => by
      have := (srcL_mem hx).1
      have : x = 0 := by simp at this; exact this
      subst this; rfl
    unfold srcL
    rw [ih, dirB_cong hc, scan_cong hc]
theorem hide_vis {f : List (NdH × Nd)} {rest : Lys} (ht : ¬ twiceL (nds f)) (hr : ∃ q ∈ f, q.2.names = [] ∧ q.2.kind = 1 ∧ q.2.opq = true) : visL (f :: rest) = visL [f] := by
  have hs : ∀ s, srcs (f :: rest) s = srcs [f] s := fun s => hide_src ht hr s s.length
  have h0 : visI (f :: rest) 0 = visI [f] 0 := by
    unfold visI
    have : lyA (f :: rest) 0 = lyA [f] 0 := rfl
    rw [this]
    simp only [hs]
  have h1 : ∀ i, visI (f :: rest) (i + 1) = [] := fun i => by
    rw [List.eq_nil_iff_forall_not_mem]
    intro x hx
    obtain ⟨p, _, g, _⟩ := visI_mem.1 hx
    rw [hs] at g
    have hm : i + 1 ∈ srcs [f] p.2.names := by
      rcases e : srcs [f] p.2.names with _ | ⟨j, r⟩
      · rw [e] at g; cases g
      · rw [e] at g; cases g; simp
    have := (srcs_mem hm).1
    simp at this
  unfold visL
  show (List.range (rest.length + 1)).flatMap _ = (List.range 1).flatMap _
  rw [List.range_succ_eq_map, List.flatMap_cons, show List.range 1 = [0] from rfl, List.flatMap_singleton, h0, List.flatMap_map]
  have : (List.range rest.length).flatMap (fun i => visI (f :: rest) (i + 1)) = [] := by simp [h1]
  rw [show (fun a => visI (f :: rest) (a.succ)) = fun i => visI (f :: rest) (i + 1) from rfl, this, List.append_nil]
/-! an empty tree -/
theorem em_src {q : NdH × Nd} {Ls : Lys} (hq : q.2.names = [] ∧ q.2.kind = 1 ∧ q.2.opq = false) (hg : GdA Ls) (hd : ∀ ps ∈ Ls, ∃ p ∈ ps, p.2.names = [] ∧ p.2.kind = 1) (hne : Ls ≠ []) (s : List (List UInt8)) :
    ∀ n, srcL ([q] :: Ls) s n = if n = 0 then 0 :: (srcL Ls s 0).map (· + 1) else if n ≤ s.length then (srcL Ls s n).map (· + 1) else srcL ([q] :: Ls) s n := by
  have ht : ¬ twiceL (nds [q]) := by unfold twiceL; simp [nds]
  obtain ⟨k1, k2⟩ := nAt_of (rest := Ls) ht (show q ∈ [q] by simp)
  rw [hq.1] at k1 k2
  have hdir : ∀ i, i < Ls.length → (nAt Ls i []).2.kind = 1 ∧ ¬ kAt Ls i [] < 0 := fun i hi => by
    have hm : lyA Ls i ∈ Ls := by unfold lyA; rw [List.getD, List.getElem?_eq_getElem hi]; exact List.getElem_mem hi
    obtain ⟨p, hp, h1, h2⟩ := hd _ hm
    have := nAt_in (Ls := Ls) (i := i) (hg.at i).tw hp
    rw [h1] at this
    exact ⟨by rw [this.2]; exact h2, by omega⟩
  have hall : ∀ (r : List Nat), (∀ x ∈ r, x < Ls.length) → r ≠ [] → dirB Ls [] (scanL Ls [] r []) = true ∧ scanL Ls [] r [] ≠ [] := fun r hr hne => by
    rcases r with _ | ⟨i, r⟩
    · exact absurd rfl hne
    · obtain ⟨d1, d2⟩ := hdir i (hr i (by simp))
      obtain ⟨x, hx⟩ := scan_head (Ls := Ls) (s := []) (i := i) (r := r) d2 (by rw [d1]; decide)
      rw [hx]
      exact ⟨by show decide _ = true; rw [decide_eq_true d1], by simp⟩
  have hlen := List.length_pos_iff.2 hne
  obtain ⟨a1, a2⟩ := hall (List.range Ls.length) (fun x hx => List.mem_range.1 hx) (by intro e; have := congrArg List.length e; rw [List.length_range] at this; exact hne (List.length_eq_zero_iff.1 this))
  have e0 : srcL ([q] :: Ls) s 0 = 0 :: (srcL Ls s 0).map (· + 1) := by
    show scanL ([q] :: Ls) [] (List.range (Ls.length + 1)) [] = 0 :: (scanL Ls [] (List.range Ls.length) []).map (· + 1)
    rw [List.range_succ_eq_map, scan_dir k1 (by rw [k2]; exact hq.2.1) (by rw [k2, hq.2.2]; decide)]
    show scanL ([q] :: Ls) [] ((List.range Ls.length).map (· + 1)) (0 :: []) = _
    rw [scan_out]
    have h1 := scan_shift (em := [q]) (Ls := Ls) (s := []) (r := List.range Ls.length) (out := [])
    rw [List.map_nil] at h1
    rw [h1, dirB_shift, if_pos a1]; rfl
  intro n
  induction n with
  | zero => rw [if_pos rfl]; exact e0
  | succ n ih =>
    rw [if_neg (by omega)]
    by_cases hn : n + 1 ≤ s.length
    · rw [if_pos hn]
      by_cases hz : n = 0
      · subst hz
        show (if dirB ([q] :: Ls) (s.take 0) (srcL ([q] :: Ls) s 0) = true then scanL ([q] :: Ls) (s.take 1) (srcL ([q] :: Ls) s 0) [] else []) = (if dirB Ls (s.take 0) (srcL Ls s 0) = true then scanL Ls (s.take 1) (srcL Ls s 0) [] else []).map _
        rw [e0, List.take_zero]
        have d1 : dirB ([q] :: Ls) [] (0 :: (srcL Ls s 0).map (· + 1)) = true := by show decide _ = true; rw [k2, decide_eq_true hq.2.1]
        have d2 : dirB Ls [] (srcL Ls s 0) = true := a1
        rw [if_pos d1, if_pos d2]
        have hk : kAt ([q] :: Ls) 0 (s.take 1) < 0 := by
          show findP [q] (s.take 1) < 0
          rw [findP_miss (fun p hp e => by
            rw [List.mem_singleton] at hp; subst hp
            rw [hq.1] at e
            have := congrArg List.length e
            rw [List.length_take] at this
            simp at this; omega)]
          decide
        rw [scan_skip hk]
        have := scan_shift (em := [q]) (Ls := Ls) (s := s.take 1) (r := srcL Ls s 0) (out := [])
        exact this
      · rw [if_neg hz, if_pos (by omega)] at ih
        show (if dirB ([q] :: Ls) (s.take n) (srcL ([q] :: Ls) s n) = true then scanL ([q] :: Ls) (s.take (n + 1)) (srcL ([q] :: Ls) s n) [] else []) = (if dirB Ls (s.take n) (srcL Ls s n) = true then scanL Ls (s.take (n + 1)) (srcL Ls s n) [] else []).map _
        rw [ih, dirB_shift]
        by_cases hb : dirB Ls (s.take n) (srcL Ls s n) = true
        · rw [if_pos hb, if_pos hb]
          exact scan_shift (em := [q]) (Ls := Ls) (s := s.take (n + 1)) (r := srcL Ls s n) (out := [])
        · rw [if_neg hb, if_neg hb]; rfl
    · rw [if_neg hn]
theorem see_list2 {Ls : Lys} (hg : GdA Ls) {ns : List (List (List UInt8))} (hs : ns.Pairwise (fun a b => lessN a b = true)) (hall : ∀ x ∈ visL Ls, x.2.names ∈ ns) : ns.filterMap (seeF Ls) = srtP (visL Ls) := by
  have hne : ns.Pairwise (· ≠ ·) := hs.imp (fun {a b} h e => by rw [e, lessN_irr] at h; cases h)
  have hnd : (ns.filterMap (seeF Ls)).Pairwise (fun a b => a.2.names ≠ b.2.names) := by
    rw [List.pairwise_filterMap]
    exact hne.imp (fun {a b} hab x hx y hy => by rw [seeF_names hx, seeF_names hy]; exact hab)
  refine srt_uniq (visL_tw hg) ?_ ?_
  · rw [List.perm_ext_iff_of_nodup (nodup_names hnd) (nodup_names (visL_names hg))]
    intro x
    rw [List.mem_filterMap]
    constructor
    · rintro ⟨s, _, h⟩; exact ((see_mem hg).1 h).1
    · intro hx
      exact ⟨x.2.names, hall x hx, (see_mem hg).2 ⟨hx, rfl⟩⟩
  · rw [List.pairwise_filterMap]
    exact hs.imp (fun {a b} hab x hx y hy => by
      show lessN y.2.names x.2.names = false
      rw [seeF_names hx, seeF_names hy]; exact lessN_asym hab)
/-- the names of what is seen, rising -/
def visNs (Ls : Lys) : List (List (List UInt8)) := (srtP (visL Ls)).map (·.2.names)
theorem visNs_lt {Ls : Lys} (hg : GdA Ls) : (visNs Ls).Pairwise (fun a b => lessN a b = true) := by
  unfold visNs
  rw [List.pairwise_map, List.pairwise_iff_getElem]
  intro i j hi hj hij
  exact srt_lt (visL_tw hg) hij (List.getElem?_eq_getElem hi) (List.getElem?_eq_getElem hj)
theorem visNs_mem {Ls : Lys} (hg : GdA Ls) {s : List (List UInt8)} : s ∈ visNs Ls ↔ srcs Ls s ≠ [] := by
  unfold visNs
  rw [List.mem_map]
  constructor
  · rintro ⟨x, hx, rfl⟩
    have h := (see_mem hg).2 ⟨(srt_perm _).mem_iff.1 hx, rfl⟩
    obtain ⟨i, r, e, _⟩ := seeF_some.1 h
    rw [e]; simp
  · intro h
    rcases e : srcs Ls s with _ | ⟨i, r⟩
    · exact absurd e h
    · have hs : seeF Ls s = some (visN i (nAt Ls i s)) := seeF_some.2 ⟨i, r, e, rfl⟩
      have := (see_mem hg).1 hs
      exact ⟨_, (srt_perm _).mem_iff.2 this.1, this.2⟩
theorem names_eq {a b : List (List (List UInt8))} (ha : a.Pairwise (fun a b => lessN a b = true)) (hb : b.Pairwise (fun a b => lessN a b = true)) (h : ∀ s, s ∈ a ↔ s ∈ b) : a = b := by
  have hn : ∀ {l : List (List (List UInt8))}, l.Pairwise (fun a b => lessN a b = true) → l.Nodup := fun hl => hl.imp (fun {x y} g e => by rw [e, lessN_irr] at g; cases g)
  have hw : ∀ {l : List (List (List UInt8))}, l.Pairwise (fun a b => lessN a b = true) → l.Pairwise (fun a b => lessN b a = false) := fun hl => hl.imp (fun {x y} g => lessN_asym g)
  refine List.Perm.eq_of_pairwise (le := fun a b => lessN b a = false) (fun x y _ _ h1 h2 => ?_) (hw ha) (hw hb) ((List.perm_ext_iff_of_nodup (hn ha) (hn hb)).2 h)
  rcases lessN_not.1 h1 with e | h1
  · exact e.symm
  · rw [h1] at h2; cases h2
theorem em_gd {q : NdH × Nd} (h1 : q.2.names = []) (h2 : okN q.2) : GdL [q] := by
  refine ⟨?_, fun p hp => by rw [List.mem_singleton] at hp; subst hp; exact h2, by simp⟩
  have : nmd (nds [q]) = nmd [nd0] := nmd_names (by simp [nds, h1, nd0])
  rw [this]; decide +kernel
theorem nds_can_at {zs : List (NdH × Nd)} {L : List (NdH × Nd)} (h : nds zs = nds (canP L)) {i : Nat} {z : NdH × Nd} (hz : zs[i]? = some z) : ∃ x, (srtP L)[i]? = some x ∧ z.2.names = x.2.names ∧ Alk z.2 x.2 := by
  have h1 := nds_get hz
  rw [h] at h1
  simp only [nds, canP, numP, List.getElem?_map, Option.map_eq_some_iff] at h1
  obtain ⟨a, ⟨p, hp, rfl⟩, e⟩ := h1
  exact ⟨p, hp, by rw [← e]; rfl, by rw [← e]; exact ⟨rfl, ⟨rfl, rfl, rfl⟩, rfl, rfl, rfl, rfl⟩⟩
theorem em_same {q : NdH × Nd} {Ls : Lys} (hq : q.2.names = [] ∧ q.2.kind = 1 ∧ q.2.opq = false) (ho : okN q.2) (hg : GdA Ls) (hd : ∀ ps ∈ Ls, ∃ p ∈ ps, p.2.names = [] ∧ p.2.kind = 1) (hne : Ls ≠ []) {as1 bs1 : List (NdH × Nd)} (ha : nds as1 = nds (canP (visL ([q] :: Ls)))) (hb : nds bs1 = nds (canP (visL Ls))) :
    as1.length = bs1.length ∧ ∀ (i : Nat) (a b : NdH × Nd), 1 ≤ i → as1[i]? = some a → bs1[i]? = some b → a.2.names = b.2.names ∧ Alk a.2 b.2 := by
  have hge : GdA ([q] :: Ls) := fun ps hp => by
    rcases List.mem_cons.1 hp with rfl | hp
    · exact em_gd hq.1 ho
    · exact hg ps hp
  have hsrc : ∀ s, s ≠ [] → srcs ([q] :: Ls) s = (srcs Ls s).map (· + 1) := fun s hs => by
    have h0 := List.length_pos_iff.2 hs
    have := em_src hq hg hd hne s s.length
    rw [if_neg (by omega), if_pos (Nat.le_refl _)] at this
    exact this
  have hr0 : srcs ([q] :: Ls) [] ≠ [] := by
    have := em_src hq hg hd hne [] 0
    rw [if_pos rfl] at this
    show srcL _ _ 0 ≠ []
    rw [this]; simp
  have hr1 : srcs Ls [] ≠ [] := by
    obtain ⟨ps, rest, rfl⟩ : ∃ ps rest, Ls = ps :: rest := by
      rcases Ls with _ | ⟨a, b⟩
      · exact absurd rfl hne
      · exact ⟨a, b, rfl⟩
    obtain ⟨p, hp, h1, h2⟩ := hd ps (by simp)
    obtain ⟨k1, k2⟩ := nAt_of (ps := ps) (rest := rest) (hg.at 0).tw hp
    rw [h1] at k1 k2
    show scanL _ _ (List.range (rest.length + 1)) [] ≠ []
    rw [List.range_succ_eq_map]
    obtain ⟨x, hx⟩ := scan_head (r := (List.range rest.length).map Nat.succ) k1 (by rw [k2, h2]; decide)
    rw [hx]; simp
  have hns : visNs ([q] :: Ls) = visNs Ls := by
    refine names_eq (visNs_lt hge) (visNs_lt hg) (fun s => ?_)
    rw [visNs_mem hge, visNs_mem hg]
    by_cases hs : s = []
    · subst hs; exact ⟨fun _ => hr1, fun _ => hr0⟩
    · rw [hsrc s hs]; simp
  have hlen : (srtP (visL ([q] :: Ls))).length = (srtP (visL Ls)).length := by
    have := congrArg List.length hns
    simpa [visNs] using this
  refine ⟨?_, fun i a b hi hia hib => ?_⟩
  · have h1 := congrArg List.length ha
    have h2 := congrArg List.length hb
    simp [nds, canP, numP] at h1 h2
    omega
  · obtain ⟨x, hx, x1, x2⟩ := nds_can_at ha hia
    obtain ⟨y, hy, y1, y2⟩ := nds_can_at hb hib
    have en : x.2.names = y.2.names := by
      have h1 : (visNs ([q] :: Ls))[i]? = some x.2.names := by unfold visNs; rw [List.getElem?_map, hx]; rfl
      have h2 : (visNs Ls)[i]? = some y.2.names := by unfold visNs; rw [List.getElem?_map, hy]; rfl
      rw [hns, h2] at h1
      exact (Option.some.inj h1).symm
    have hs : y.2.names ≠ [] := fun e => by
      obtain ⟨z, hz⟩ : ∃ z, (srtP (visL Ls))[0]? = some z := ⟨_, List.getElem?_eq_getElem (by have := (List.getElem?_eq_some_iff.1 hy).1; omega)⟩
      have := srt_lt (visL_tw hg) (show 0 < i by omega) hz hy
      rw [e, less_nilN] at this; cases this
    have sx := (see_mem hge).2 ⟨(srt_perm _).mem_iff.1 (List.mem_of_getElem? hx), rfl⟩
    have sy := (see_mem hg).2 ⟨(srt_perm _).mem_iff.1 (List.mem_of_getElem? hy), rfl⟩
    rw [en] at sx
    obtain ⟨t, et⟩ : ∃ t, t = y.2.names := ⟨_, rfl⟩
    rw [← et] at sx sy hs
    obtain ⟨j, r, e1, ey⟩ := seeF_some.1 sy
    obtain ⟨k, r2, e2, ex⟩ := seeF_some.1 sx
    rw [hsrc _ hs, e1, List.map_cons] at e2
    have hk : j + 1 = k := (List.cons.inj e2).1
    subst hk
    have hn := nAt_cong (Ls := [q] :: Ls) (Ms := Ls) (i := j + 1) (j := j) (s := t) rfl
    rw [hn] at ex
    refine ⟨by rw [x1, en, y1], x2.trans (Alk.trans ?_ y2.symm)⟩
    rw [ex, ey]
    exact ⟨rfl, ⟨rfl, rfl, rfl⟩, rfl, rfl, rfl, rfl⟩
end Go.Proofs.Ytpamandneifemaa
