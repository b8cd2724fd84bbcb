/- merge: trees folded one by one come to the same, in plain Lean. No condition. -/
import Derived.Test.YtpamandneifemaaMgIk
namespace Go.Proofs.Ytpamandneifemaa
open Go Go.RowKit Go.Maps
set_option linter.unusedVariables false

def numN (l : List Nd) : List Nd := l.map (renI (numZ (l.map (·.ino))))
theorem numN_of (ps : List (NdH × Nd)) : nds (numP ps) = numN (nds ps) := by
  unfold numN nds numP inosOf
  rw [List.map_map, List.map_map, List.map_map]; rfl
theorem numN_ren {f : Int → Int} {l : List Nd} (h : InjOn f (l.map (·.ino))) : numN (l.map (renI f)) = numN l := by
  unfold numN
  rw [List.map_map, List.map_map]
  have e : l.map ((·.ino) ∘ renI f) = (l.map (·.ino)).map f := by rw [List.map_map]; rfl
  rw [e]
  refine List.map_congr_left (fun n hn => ?_)
  show renI _ (renI f n) = renI _ n
  unfold renI
  simp only
  rw [numZ_map h (List.mem_map.2 ⟨n, hn, rfl⟩)]
theorem numZ_le (Z : List Int) (z : Int) : 1 ≤ numZ Z z ∧ numZ Z z ≤ (Z.length : Int) + 1 := by
  have h1 := seen_le Z
  have h2 : (seenOf Z).idxOf z ≤ (seenOf Z).length := List.idxOf_le_length
  unfold numZ; omega
def zOf (Ls : Lys) : List Int := inosOf (srtP (visL Ls))
theorem zOf_len {Ls : Lys} (h : good (nds (visL Ls))) : (zOf Ls).length ≤ 1024 := by
  have h1 := h.1
  have h2 := (srt_perm (visL Ls)).length_eq
  unfold zOf inosOf
  rw [List.length_map]
  simp only [nds, List.length_map] at h1
  omega
/-- the lower trees' own merge -/
structure Mof (Ls : Lys) (M : List (NdH × Nd)) : Prop where
  hg : GdA Ls
  gd : good (nds (visL Ls))
  eq : nds M = nds (canP (visL Ls))
section
variable {Ls1 : Lys} {M : List (NdH × Nd)} (h : Mof Ls1 M)
include h
theorem Mof.mem {m : NdH × Nd} (hm : m ∈ M) : ∃ x ∈ visL Ls1, m.2 = renI (numZ (zOf Ls1)) x.2 := by
  have : m.2 ∈ nds M := List.mem_map.2 ⟨m, hm, rfl⟩
  rw [h.eq] at this
  obtain ⟨y, hy, e⟩ := List.mem_map.1 this
  obtain ⟨x, hx, rfl⟩ := List.mem_map.1 hy
  exact ⟨x, (srt_perm _).mem_iff.1 hx, e.symm⟩
theorem Mof.has {x : NdH × Nd} (hx : x ∈ visL Ls1) : ∃ m ∈ M, m.2 = renI (numZ (zOf Ls1)) x.2 := by
  have : renI (numZ (zOf Ls1)) x.2 ∈ nds (canP (visL Ls1)) := List.mem_map.2 ⟨renP (zOf Ls1) x, List.mem_map.2 ⟨x, (srt_perm _).mem_iff.2 hx, rfl⟩, rfl⟩
  rw [← h.eq] at this
  obtain ⟨m, hm, e⟩ := List.mem_map.1 this
  exact ⟨m, hm, e⟩
theorem Mof.gdL : GdL M := by
  have hgood : good (nds M) := by rw [h.eq]; exact can_good h.gd
  refine ⟨plc_nmd0 (chk_plc0 ((chk0_iff _).2 hgood)), fun m hm => ?_, ?_⟩
  · obtain ⟨x, hx, e⟩ := h.mem hm
    obtain ⟨i, p, _, hp, _, rfl⟩ := visL_mem.1 hx
    have ho := (h.hg.at i).2.1 p hp
    have hz := numZ_le (zOf Ls1) (cdI i p.2.ino)
    have hl := zOf_len h.gd
    rw [e]
    intro z hzm
    simp only [renI, visN, List.mem_cons, List.not_mem_nil, or_false] at hzm
    rcases hzm with rfl | rfl | rfl | rfl | rfl
    · omega
    · exact ho _ (by simp)
    · exact ho _ (by simp)
    · exact ho _ (by simp)
    · exact ho _ (by simp)
  · have := hgood.1
    simpa [nds] using this
theorem Mof.no {t : List (List UInt8)} (e : srcs Ls1 t = []) : findP M t < 0 := by
  rw [findP_miss (fun m hm g => ?_)]
  · decide
  · obtain ⟨x, hx, e2⟩ := h.mem hm
    have hn : x.2.names = t := by rw [← g, e2]; rfl
    have := (see_mem h.hg).2 ⟨hx, hn⟩
    obtain ⟨i, r, e3, _⟩ := seeF_some.1 this
    rw [e] at e3; cases e3
theorem Mof.yes {L0 : List (NdH × Nd)} {t : List (List UInt8)} {j : Nat} {r : List Nat} (e : srcs Ls1 t = j :: r) : ¬ kAt [L0, M] 1 t < 0 ∧ (nAt [L0, M] 1 t).2 = renI (numZ (zOf Ls1)) (visN j (nAt Ls1 j t)).2 ∧ (visN j (nAt Ls1 j t)) ∈ visL Ls1 := by
  have hx := (see_mem h.hg).1 (seeF_some.2 ⟨j, r, e, rfl⟩)
  obtain ⟨m, hm, e2⟩ := h.has hx.1
  have hn : m.2.names = t := by rw [e2]; exact hx.2
  have := nAt_in (Ls := [L0, M]) (i := 1) h.gdL.tw hm
  rw [hn] at this
  exact ⟨by omega, by rw [this.2, e2], hx.1⟩
end

/-! where a path comes from -/
def Rl (L0 : List (NdH × Nd)) (Ls1 : Lys) (t : List (List UInt8)) (X X' T : List Nat) : Prop :=
  (X = [] ∧ X' = []) ∨ (X = [0] ∧ X' = [0]) ∨ (X = 0 :: T.map (· + 1) ∧ X' = [0, 1] ∧ T ≠ [] ∧ dirB Ls1 t T = true ∧ (nAt (L0 :: Ls1) 0 t).2.kind = 1) ∨ (X = T.map (· + 1) ∧ X' = [1] ∧ T ≠ [])
section
variable {Ls1 : Lys} {L0 M : List (NdH × Nd)} {t : List (List UInt8)} {T : List Nat}
/-- what the fold finds below -/
def Low (Ls1 : Lys) (L0 M : List (NdH × Nd)) (t : List (List UInt8)) (T : List Nat) : Prop :=
  (T = [] → kAt [L0, M] 1 t < 0) ∧ ∀ j r, T = j :: r → ¬ kAt [L0, M] 1 t < 0 ∧ (nAt [L0, M] 1 t).2.kind = (nAt Ls1 j t).2.kind ∧ (nAt [L0, M] 1 t).2.kind ≠ 4
theorem low1 (hl : Low Ls1 L0 M t T) : scanL [L0, M] t [1] [] = if T = [] then [] else [1] := by
  rcases T with _ | ⟨j, r⟩
  · rw [scan_skip (hl.1 rfl), scan_nil]; rfl
  · obtain ⟨h1, _, h3⟩ := hl.2 j r rfl
    rw [if_neg (by simp)]
    obtain ⟨x, hx⟩ := scan_head (Ls := [L0, M]) (s := t) (i := 1) (r := []) h1 h3
    by_cases hk : (nAt [L0, M] 1 t).2.kind = 1
    · by_cases ho : (nAt [L0, M] 1 t).2.opq = true
      · rw [scan_opq h1 hk ho]; rfl
      · rw [scan_dir h1 hk ho, scan_nil]; rfl
    · rw [scan_one h1 hk rfl h3]; rfl
theorem low_dir (hl : Low Ls1 L0 M t T) (hne : T ≠ []) : dirB [L0, M] t [1] = dirB Ls1 t T := by
  rcases T with _ | ⟨j, r⟩
  · exact absurd rfl hne
  · obtain ⟨_, h2, _⟩ := hl.2 j r rfl
    show decide _ = decide _
    rw [h2]
theorem stepB {r : List Nat} (hl : Low Ls1 L0 M t (scanL Ls1 t r [])) : Rl L0 Ls1 t (scanL (L0 :: Ls1) t (r.map (· + 1)) []) (scanL [L0, M] t [1] []) (scanL Ls1 t r []) := by
  have h1 := scan_shift (em := L0) (Ls := Ls1) (s := t) (r := r) (out := [])
  rw [List.map_nil] at h1
  rw [h1, low1 hl]
  by_cases he : scanL Ls1 t r [] = []
  · rw [if_pos he, he]; exact .inl ⟨rfl, rfl⟩
  · rw [if_neg he]; exact .inr (.inr (.inr ⟨rfl, rfl, he⟩))
theorem stepC : Rl L0 Ls1 t (scanL (L0 :: Ls1) t [0] []) (scanL [L0, M] t [0] []) T := by
  have hc : scanL [L0, M] t [0] [] = scanL (L0 :: Ls1) t [0] [] := scan_cong (fun x hx => by rw [List.mem_singleton] at hx; subst hx; rfl)
  rw [hc]
  by_cases h0 : kAt (L0 :: Ls1) 0 t < 0
  · rw [scan_skip h0, scan_nil]; exact .inl ⟨rfl, rfl⟩
  · by_cases h1 : (nAt (L0 :: Ls1) 0 t).2.kind = 1
    · by_cases h2 : (nAt (L0 :: Ls1) 0 t).2.opq = true
      · rw [scan_opq h0 h1 h2]; exact .inr (.inl ⟨rfl, rfl⟩)
      · rw [scan_dir h0 h1 h2, scan_nil]; exact .inr (.inl ⟨rfl, rfl⟩)
    · by_cases h3 : (nAt (L0 :: Ls1) 0 t).2.kind ≠ 4
      · rw [scan_one h0 h1 rfl h3]; exact .inr (.inl ⟨rfl, rfl⟩)
      · rw [scan_stop h0 h1 (fun g => h3 g.2)]; exact .inl ⟨rfl, rfl⟩
theorem stepA {r : List Nat} (hl : Low Ls1 L0 M t (scanL Ls1 t r [])) : Rl L0 Ls1 t (scanL (L0 :: Ls1) t (0 :: r.map (· + 1)) []) (scanL [L0, M] t [0, 1] []) (scanL Ls1 t r []) := by
  have hk : kAt [L0, M] 0 t = kAt (L0 :: Ls1) 0 t := rfl
  have hn : nAt [L0, M] 0 t = nAt (L0 :: Ls1) 0 t := rfl
  have h1 := scan_shift (em := L0) (Ls := Ls1) (s := t) (r := r) (out := [])
  rw [List.map_nil] at h1
  by_cases h0 : kAt (L0 :: Ls1) 0 t < 0
  · rw [scan_skip h0, scan_skip (by rw [hk]; exact h0)]; exact stepB hl
  · by_cases hd : (nAt (L0 :: Ls1) 0 t).2.kind = 1
    · by_cases ho : (nAt (L0 :: Ls1) 0 t).2.opq = true
      · rw [scan_opq h0 hd ho, scan_opq (by rw [hk]; exact h0) (by rw [hn]; exact hd) (by rw [hn]; exact ho)]; exact .inr (.inl ⟨rfl, rfl⟩)
      · rw [scan_dir h0 hd ho, scan_dir (by rw [hk]; exact h0) (by rw [hn]; exact hd) (by rw [hn]; exact ho)]
        show Rl L0 Ls1 t (scanL (L0 :: Ls1) t (r.map (· + 1)) [0]) (scanL [L0, M] t [1] [0]) _
        rw [scan_out, scan_out, h1, dirB_shift, low1 hl]
        by_cases he : scanL Ls1 t r [] = []
        · rw [if_pos he, he]; exact .inr (.inl ⟨rfl, rfl⟩)
        · rw [if_neg he, low_dir hl he]
          by_cases hb : dirB Ls1 t (scanL Ls1 t r []) = true
          · rw [if_pos hb, if_pos hb]; exact .inr (.inr (.inl ⟨rfl, rfl, he, hb, hd⟩))
          · rw [if_neg hb, if_neg hb]; exact .inr (.inl ⟨rfl, rfl⟩)
    · by_cases h3 : (nAt (L0 :: Ls1) 0 t).2.kind ≠ 4
      · rw [scan_one h0 hd rfl h3, scan_one (by rw [hk]; exact h0) (by rw [hn]; exact hd) rfl (by rw [hn]; exact h3)]; exact .inr (.inl ⟨rfl, rfl⟩)
      · rw [scan_stop h0 hd (fun g => h3 g.2), scan_stop (by rw [hk]; exact h0) (by rw [hn]; exact hd) (fun g => h3 (by rw [hn] at g; exact g.2))]; exact .inl ⟨rfl, rfl⟩
end
theorem Mof.low {Ls1 : Lys} {L0 M : List (NdH × Nd)} (h : Mof Ls1 M) (t : List (List UInt8)) : Low Ls1 L0 M t (srcs Ls1 t) :=
  ⟨fun e => h.no e, fun j r e => by
    obtain ⟨h1, h2, h3⟩ := h.yes (L0 := L0) e
    have hk : (nAt [L0, M] 1 t).2.kind = (nAt Ls1 j t).2.kind := by rw [h2]; rfl
    exact ⟨h1, hk, by rw [hk]; exact srcs_k4 (by rw [e]; simp)⟩⟩
theorem Mof.rel {Ls1 : Lys} {L0 M : List (NdH × Nd)} (h : Mof Ls1 M) (s : List (List UInt8)) : ∀ n, n ≤ s.length → Rl L0 Ls1 (s.take n) (srcL (L0 :: Ls1) s n) (srcL [L0, M] s n) (srcL Ls1 s n) := by
  intro n
  induction n with
  | zero =>
    intro _
    have hl := h.low (L0 := L0) []
    show Rl L0 Ls1 [] (scanL (L0 :: Ls1) [] (List.range (Ls1.length + 1)) []) (scanL [L0, M] [] (List.range 2) []) (scanL Ls1 [] (List.range Ls1.length) [])
    rw [List.range_succ_eq_map]
    exact stepA hl
  | succ n ih =>
    intro hn
    have hl := h.low (L0 := L0) (s.take (n + 1))
    rw [srcs_take hn] at hl
    have hln := h.low (L0 := L0) (s.take n)
    rw [srcs_take (by omega)] at hln
    have eL : ∀ (Q : Lys), srcL Q s (n + 1) = if dirB Q (s.take n) (srcL Q s n) = true then scanL Q (s.take (n + 1)) (srcL Q s n) [] else [] := fun Q => rfl
    rcases ih (by omega) with ⟨e1, e2⟩ | ⟨e1, e2⟩ | ⟨e1, e2, e3, e4, e5⟩ | ⟨e1, e2, e3⟩
    · rw [eL (L0 :: Ls1), eL [L0, M], e1, e2]; exact .inl ⟨rfl, rfl⟩
    · rw [eL (L0 :: Ls1), eL [L0, M], e1, e2, show dirB [L0, M] (s.take n) [0] = dirB (L0 :: Ls1) (s.take n) [0] from rfl]
      by_cases hb : dirB (L0 :: Ls1) (s.take n) [0] = true
      · rw [if_pos hb, if_pos hb]; exact stepC
      · rw [if_neg hb, if_neg hb]; exact .inl ⟨rfl, rfl⟩
    · have d1 : dirB (L0 :: Ls1) (s.take n) (0 :: (srcL Ls1 s n).map (· + 1)) = true := decide_eq_true e5
      have d2 : dirB [L0, M] (s.take n) [0, 1] = true := d1
      have eT : srcL Ls1 s (n + 1) = scanL Ls1 (s.take (n + 1)) (srcL Ls1 s n) [] := by rw [eL, if_pos e4]
      rw [eT] at hl
      rw [eL (L0 :: Ls1), eL [L0, M], eT, e1, e2, if_pos d1, if_pos d2]
      exact stepA hl
    · have d2 := low_dir hln e3
      rw [eL (L0 :: Ls1), eL [L0, M], e1, e2, dirB_shift, d2]
      by_cases hb : dirB Ls1 (s.take n) (srcL Ls1 s n) = true
      · have eT : srcL Ls1 s (n + 1) = scanL Ls1 (s.take (n + 1)) (srcL Ls1 s n) [] := by rw [eL, if_pos hb]
        rw [eT] at hl
        rw [eT, if_pos hb, if_pos hb]
        exact stepB hl
      · rw [if_neg hb, if_neg hb]; exact .inl ⟨rfl, rfl⟩
/-! the same at each path -/
def fdF (Ls1 : Lys) (c : Int) : Int := if dI c = 0 then c else cdI 1 (numZ (zOf Ls1) (c - 18446744073709551616))
theorem Mof.see {Ls1 : Lys} {L0 M : List (NdH × Nd)} (h : Mof Ls1 M) (h0 : GdL L0) (s : List (List UInt8)) :
    (seeF [L0, M] s).map (·.2) = (seeF (L0 :: Ls1) s).map (fun x => renI (fdF Ls1) x.2) ∧ ∀ x, seeF (L0 :: Ls1) s = some x → (∃ z, (-9223372036854775808 ≤ z ∧ z ≤ 9223372036854775807) ∧ x.2.ino = cdI 0 z) ∨ ∃ j z, (-9223372036854775808 ≤ z ∧ z ≤ 9223372036854775807) ∧ x.2.ino = cdI (j + 1) z ∧ cdI j z ∈ zOf Ls1 := by
  have hr := h.rel (L0 := L0) s s.length (Nat.le_refl _)
  have key : ∀ {a b : List Nat}, srcs (L0 :: Ls1) s = 0 :: a → srcs [L0, M] s = 0 :: b → (seeF [L0, M] s).map (·.2) = (seeF (L0 :: Ls1) s).map (fun x => renI (fdF Ls1) x.2) ∧ ∀ x, seeF (L0 :: Ls1) s = some x → (∃ z, (-9223372036854775808 ≤ z ∧ z ≤ 9223372036854775807) ∧ x.2.ino = cdI 0 z) ∨ ∃ j z, (-9223372036854775808 ≤ z ∧ z ≤ 9223372036854775807) ∧ x.2.ino = cdI (j + 1) z ∧ cdI j z ∈ zOf Ls1 := fun {a b} e1 e2 => by
    have hm := nAt_mem (srcs_mem (Ls := L0 :: Ls1) (s := s) (x := 0) (by rw [e1]; simp)).2
    have ho := okN_ino (h0.2.1 _ hm.1)
    rw [seeF_some.2 ⟨0, a, e1, rfl⟩, seeF_some.2 ⟨0, b, e2, rfl⟩]
    refine ⟨?_, fun x hx => .inl ⟨_, ho, by cases hx; rfl⟩⟩
    show some (visN 0 (nAt (L0 :: Ls1) 0 s)).2 = some (renI (fdF Ls1) (visN 0 (nAt (L0 :: Ls1) 0 s)).2)
    congr 1
    unfold renI visN fdF
    simp only
    rw [dI_cd ho, if_pos rfl]
  rcases hr with ⟨e1, e2⟩ | ⟨e1, e2⟩ | ⟨e1, e2, _⟩ | ⟨e1, e2, e3⟩
  · have n1 : seeF (L0 :: Ls1) s = none := by unfold seeF srcs; rw [e1]
    have n2 : seeF [L0, M] s = none := by unfold seeF srcs; rw [e2]
    rw [n1, n2]; exact ⟨rfl, fun x hx => by cases hx⟩
  · exact key e1 e2
  · exact key e1 e2
  · rcases eT : srcs Ls1 s with _ | ⟨j, r⟩
    · exact absurd eT e3
    · obtain ⟨_, y2, y3⟩ := h.yes (L0 := L0) eT
      have hm := srcs_mem (Ls := Ls1) (s := s) (x := j) (by rw [eT]; simp)
      have ho := okN_ino ((h.hg.at j).2.1 _ (nAt_mem hm.2).1)
      have e1 : srcs (L0 :: Ls1) s = (j + 1) :: r.map (· + 1) := by
        show srcL _ _ _ = _
        rw [e1, show srcL Ls1 s s.length = j :: r from eT]; rfl
      have en : nAt (L0 :: Ls1) (j + 1) s = nAt Ls1 j s := nAt_cong rfl
      rw [seeF_some.2 ⟨j + 1, _, e1, rfl⟩, seeF_some.2 ⟨1, [], e2, rfl⟩, en]
      have ec : cdI (j + 1) (nAt Ls1 j s).2.ino - 18446744073709551616 = cdI j (nAt Ls1 j s).2.ino := by unfold cdI; omega
      refine ⟨?_, fun x hx => .inr ⟨j, _, ho, by cases hx; rfl, List.mem_map.2 ⟨_, (srt_perm _).mem_iff.2 y3, rfl⟩⟩⟩
      show some (visN 1 (nAt [L0, M] 1 s)).2 = some (renI (fdF Ls1) (visN (j + 1) (nAt Ls1 j s)).2)
      congr 1
      unfold visN
      simp only
      rw [y2]
      unfold renI visN fdF
      simp only
      rw [dI_cd ho, if_neg (by omega), ec]
theorem fold_same {Ls1 : Lys} {L0 M : List (NdH × Nd)} (h : Mof Ls1 M) (h0 : GdL L0) : nds (canP (visL [L0, M])) = nds (canP (visL (L0 :: Ls1))) := by
  have hgF : GdA [L0, M] := gdA2 h0 h.gdL
  have hgL : GdA (L0 :: Ls1) := fun x hx => by
    rcases List.mem_cons.1 hx with rfl | hx
    · exact h0
    · exact h.hg x hx
  have hL := see_list2 hgL (visNs_lt hgL) (fun x hx => by
    have := (see_mem hgL).2 ⟨hx, rfl⟩
    obtain ⟨i, r, e, _⟩ := seeF_some.1 this
    exact (visNs_mem hgL).2 (by rw [e]; simp))
  have hF := see_list2 hgF (visNs_lt hgL) (fun x hx => by
    have h1 := (see_mem hgF).2 ⟨hx, rfl⟩
    have h2 := (h.see h0 x.2.names).1
    rw [h1] at h2
    rcases e : seeF (L0 :: Ls1) x.2.names with _ | y
    · rw [e] at h2; cases h2
    · obtain ⟨i, r, e, _⟩ := seeF_some.1 e
      exact (visNs_mem hgL).2 (by rw [e]; simp))
  obtain ⟨ns, ens⟩ : ∃ ns, ns = visNs (L0 :: Ls1) := ⟨_, rfl⟩
  rw [← ens] at hL hF
  have e1 : nds (srtP (visL [L0, M])) = (nds (srtP (visL (L0 :: Ls1)))).map (renI (fdF Ls1)) := by
    rw [← hL, ← hF]
    unfold nds
    rw [List.map_map, List.map_filterMap, List.map_filterMap]
    congr 1
    funext s
    exact (h.see h0 s).1
  unfold canP
  rw [numN_of, numN_of, e1]
  refine numN_ren (fun a ha b hb e => ?_)
  have hl := zOf_len h.gd
  have get : ∀ {c : Int}, c ∈ (nds (srtP (visL (L0 :: Ls1)))).map (·.ino) → (∃ z, (-9223372036854775808 ≤ z ∧ z ≤ 9223372036854775807) ∧ c = cdI 0 z ∧ fdF Ls1 c = cdI 0 z) ∨ ∃ j z, (-9223372036854775808 ≤ z ∧ z ≤ 9223372036854775807) ∧ c = cdI (j + 1) z ∧ cdI j z ∈ zOf Ls1 ∧ fdF Ls1 c = cdI 1 (numZ (zOf Ls1) (cdI j z)) := fun {c} hc => by
    obtain ⟨n, hn, rfl⟩ := List.mem_map.1 hc
    obtain ⟨x, hx, rfl⟩ := List.mem_map.1 hn
    have hs := (see_mem hgL).2 ⟨(srt_perm _).mem_iff.1 hx, rfl⟩
    rcases (h.see h0 x.2.names).2 x hs with ⟨z, hz, ez⟩ | ⟨j, z, hz, ez, hm⟩
    · exact .inl ⟨z, hz, ez, by rw [ez]; unfold fdF; rw [dI_cd hz, if_pos rfl]⟩
    · exact .inr ⟨j, z, hz, ez, hm, by
        rw [ez]; unfold fdF; rw [dI_cd hz, if_neg (by omega)]
        congr 2
        unfold cdI; omega⟩
  have rng : ∀ c, -9223372036854775808 ≤ numZ (zOf Ls1) c ∧ numZ (zOf Ls1) c ≤ 9223372036854775807 := fun c => by
    have := numZ_le (zOf Ls1) c; omega
  rcases get ha with ⟨z, hz, ea, fa⟩ | ⟨j, z, hz, ea, ma, fa⟩
  · rcases get hb with ⟨y, hy, eb, fb⟩ | ⟨i, y, hy, eb, mb, fb⟩
    · rw [fa, fb] at e; rw [ea, eb, e]
    · rw [fa, fb] at e
      exact absurd (cd_inj hz (rng _) e).1 (by decide)
  · rcases get hb with ⟨y, hy, eb, fb⟩ | ⟨i, y, hy, eb, mb, fb⟩
    · rw [fa, fb] at e
      exact absurd (cd_inj (rng _) hy e).1 (by decide)
    · rw [fa, fb] at e
      have e2 := numZ_inj (zOf Ls1) _ ma _ mb (cd_inj (rng _) (rng _) e).2
      obtain ⟨rfl, rfl⟩ := cd_inj hz hy e2
      rw [ea, eb]
end Go.Proofs.Ytpamandneifemaa
