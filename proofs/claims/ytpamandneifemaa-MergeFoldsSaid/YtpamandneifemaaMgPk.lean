/- merge: what trees one above the other come to, in plain Lean. No condition. -/
import Derived.Test.YtpamandneifemaaToAk
namespace Go.Proofs.Ytpamandneifemaa
open Go Go.RowKit Go.Maps
set_option linter.unusedVariables false

abbrev Lys := List (List (NdH × Nd))
def lyA (Ls : Lys) (i : Nat) : List (NdH × Nd) := Ls.getD i []
def kAt (Ls : Lys) (i : Nat) (s : List (List UInt8)) : Int := findP (lyA Ls i) s
def nAt (Ls : Lys) (i : Nat) (s : List (List UInt8)) : NdH × Nd := (lyA Ls i).getD (kAt Ls i s).toNat (ndh0, nd0)
/-- what is made of some layers' nodes of one path -/
def scanL (Ls : Lys) (s : List (List UInt8)) : List Nat → List Nat → List Nat
  | [], out => out
  | i :: r, out => if kAt Ls i s < 0 then scanL Ls s r out else
      if (nAt Ls i s).2.kind = 1 then (if (nAt Ls i s).2.opq = true then out ++ [i] else scanL Ls s r (out ++ [i]))
      else if out = [] ∧ (nAt Ls i s).2.kind ≠ 4 then out ++ [i] else out
def dirB (Ls : Lys) (s : List (List UInt8)) : List Nat → Bool
  | [] => false
  | i :: _ => decide ((nAt Ls i s).2.kind = 1)
def srcL (Ls : Lys) (s : List (List UInt8)) : Nat → List Nat
  | 0 => scanL Ls [] (List.range Ls.length) []
  | n + 1 => if dirB Ls (s.take n) (srcL Ls s n) = true then scanL Ls (s.take (n + 1)) (srcL Ls s n) [] else []
def srcs (Ls : Lys) (s : List (List UInt8)) : List Nat := srcL Ls s s.length

section
variable {Ls : Lys} {s : List (List UInt8)}
theorem find_at {ps : List (NdH × Nd)} (h : 0 ≤ findP ps s) : ∃ p, ps[(findP ps s).toNat]? = some p ∧ p.2.names = s ∧ ps.getD (findP ps s).toNat (ndh0, nd0) = p := by
  rcases findP_spec ps s with ⟨h1, _⟩ | ⟨i, p, h1, h2, h3, _⟩
  · omega
  · rw [h1]; exact ⟨p, h2, h3, by rw [Int.toNat_natCast, List.getD, h2]; rfl⟩
theorem nAt_mem {i : Nat} (h : 0 ≤ kAt Ls i s) : (nAt Ls i s) ∈ lyA Ls i ∧ (nAt Ls i s).2.names = s := by
  obtain ⟨p, h1, h2, h3⟩ := find_at h
  unfold nAt
  unfold kAt at *
  rw [h3]; exact ⟨List.mem_of_getElem? h1, h2⟩
theorem find_in {ps : List (NdH × Nd)} (ht : ¬ twiceL (nds ps)) {k : Nat} {p : NdH × Nd} (h : ps[k]? = some p) : findP ps p.2.names = k :=
  findP_hit h rfl (fun j q hj hq e => ht ((twice_iff ps).2 ⟨j, k, q, p, hj, hq, h, e⟩))
theorem nAt_in {i : Nat} (ht : ¬ twiceL (nds (lyA Ls i))) {p : NdH × Nd} (h : p ∈ lyA Ls i) : 0 ≤ kAt Ls i p.2.names ∧ nAt Ls i p.2.names = p := by
  obtain ⟨k, hk⟩ := List.getElem?_of_mem h
  have e := find_in ht hk
  unfold nAt kAt
  rw [e, Int.toNat_natCast, List.getD, hk]; exact ⟨by omega, rfl⟩
theorem scan_mem {x : Nat} : ∀ {r out : List Nat}, x ∈ scanL Ls s r out → x ∈ out ∨ (x ∈ r ∧ 0 ≤ kAt Ls x s)
  | [], out, h => .inl h
  | i :: r, out, h => by
    unfold scanL at h
    by_cases h1 : kAt Ls i s < 0
    · rw [if_pos h1] at h
      rcases scan_mem h with h | ⟨h, g⟩
      · exact .inl h
      · exact .inr ⟨List.mem_cons_of_mem _ h, g⟩
    · rw [if_neg h1] at h
      have hi : ∀ {y : Nat}, y ∈ out ++ [i] → y ∈ out ∨ (y ∈ i :: r ∧ 0 ≤ kAt Ls y s) := fun hy => by
        rcases List.mem_append.1 hy with g | g
        · exact .inl g
        · rw [List.mem_singleton] at g; subst g; exact .inr ⟨by simp, by omega⟩
      by_cases h2 : (nAt Ls i s).2.kind = 1
      · rw [if_pos h2] at h
        by_cases h3 : (nAt Ls i s).2.opq = true
        · rw [if_pos h3] at h; exact hi h
        · rw [if_neg h3] at h
          rcases scan_mem h with h | ⟨h, g⟩
          · exact hi h
          · exact .inr ⟨List.mem_cons_of_mem _ h, g⟩
      · rw [if_neg h2] at h
        split at h
        · exact hi h
        · exact .inl h
theorem srcL_mem {x : Nat} : ∀ {n : Nat}, x ∈ srcL Ls s n → x < Ls.length ∧ 0 ≤ kAt Ls x (s.take n)
  | 0, h => by
    unfold srcL at h
    rcases scan_mem h with h | ⟨h, g⟩
    · cases h
    · exact ⟨List.mem_range.1 h, by rw [List.take_zero]; exact g⟩
  | n + 1, h => by
    unfold srcL at h
    split at h
    · rcases scan_mem h with h | ⟨h, g⟩
      · cases h
      · exact ⟨(srcL_mem h).1, g⟩
    · cases h
theorem srcs_mem {x : Nat} (h : x ∈ srcs Ls s) : x < Ls.length ∧ 0 ≤ kAt Ls x s := by
  have := srcL_mem h
  rwa [List.take_length] at this
theorem srcL_take {k : Nat} : ∀ {n : Nat}, n ≤ k → srcL Ls (s.take k) n = srcL Ls s n
  | 0, _ => rfl
  | n + 1, h => by
    unfold srcL
    rw [srcL_take (by omega), List.take_take, List.take_take, show min n k = n by omega, show min (n + 1) k = n + 1 by omega]
theorem srcs_take {n : Nat} (h : n ≤ s.length) : srcs Ls (s.take n) = srcL Ls s n := by
  unfold srcs
  rw [List.length_take, show min n s.length = n by omega]
  exact srcL_take (Nat.le_refl _)
theorem srcs_nil : srcs Ls [] = scanL Ls [] (List.range Ls.length) [] := rfl
theorem srcs_up (h : s ≠ []) : srcs Ls s = if dirB Ls s.dropLast (srcs Ls s.dropLast) = true then scanL Ls s (srcs Ls s.dropLast) [] else [] := by
  have h0 := List.length_pos_iff.2 h
  rw [drop_take, srcs_take (by omega)]
  show srcL Ls s s.length = _
  obtain ⟨m, hm⟩ : ∃ m, s.length = m + 1 := ⟨s.length - 1, by omega⟩
  rw [hm, Nat.add_sub_cancel]
  conv => lhs; unfold srcL
  rw [← hm, List.take_length]
theorem srcL_dead {n : Nat} (h : dirB Ls (s.take n) (srcL Ls s n) = false) : ∀ k, srcL Ls s (n + 1 + k) = []
  | 0 => by show srcL Ls s (n + 1) = []; unfold srcL; rw [h]; rfl
  | k + 1 => by
    show srcL Ls s (n + 1 + k + 1) = []
    unfold srcL
    rw [srcL_dead h k]; rfl
end

/-! what is seen -/
def cdI (i : Nat) (z : Int) : Int := (i : Int) * 18446744073709551616 + z
theorem cd_inj {i j : Nat} {a b : Int} (ha : -9223372036854775808 ≤ a ∧ a ≤ 9223372036854775807) (hb : -9223372036854775808 ≤ b ∧ b ≤ 9223372036854775807) (h : cdI i a = cdI j b) : i = j ∧ a = b := by
  unfold cdI at h; omega
def visN (i : Nat) (p : NdH × Nd) : NdH × Nd := (p.1, { p.2 with opq := false, ino := cdI i p.2.ino })
def visI (Ls : Lys) (i : Nat) : List (NdH × Nd) := ((lyA Ls i).filter (fun p => decide ((srcs Ls p.2.names).head? = some i))).map (visN i)
def visL (Ls : Lys) : List (NdH × Nd) := (List.range Ls.length).flatMap (visI Ls)
/-- a layer's names are names -/
def GdL (ps : List (NdH × Nd)) : Prop := nmd (nds ps) = 0 ∧ (∀ p ∈ ps, okN p.2) ∧ ps.length ≤ 1024
def GdA (Ls : Lys) : Prop := ∀ ps ∈ Ls, GdL ps
theorem GdA.at {Ls : Lys} (h : GdA Ls) (i : Nat) : GdL (lyA Ls i) := by
  unfold lyA
  by_cases hi : i < Ls.length
  · rw [List.getD, List.getElem?_eq_getElem hi]; exact h _ (List.getElem_mem hi)
  · rw [List.getD, List.getElem?_eq_none (by omega)]; exact ⟨rfl, by simp, by simp⟩
theorem GdL.tw {ps : List (NdH × Nd)} (h : GdL ps) : ¬ twiceL (nds ps) := (nmd_zero h.1).2.2
theorem GdL.nm {ps : List (NdH × Nd)} (h : GdL ps) {p : NdH × Nd} (hp : p ∈ ps) : (∀ s ∈ p.2.names, vErr s = 0) ∧ p.2.names.length ≤ 16 := by
  have := nmd_zero h.1
  have hm : p.2 ∈ nds ps := List.mem_map.2 ⟨p, hp, rfl⟩
  exact ⟨fun s hs => this.1 s (List.mem_flatMap.2 ⟨p.2, hm, hs⟩), this.2.1 _ hm⟩
section
variable {Ls : Lys}
theorem visI_mem {i : Nat} {x : NdH × Nd} : x ∈ visI Ls i ↔ ∃ p ∈ lyA Ls i, (srcs Ls p.2.names).head? = some i ∧ x = visN i p := by
  unfold visI
  rw [List.mem_map]
  constructor
  · rintro ⟨p, hp, e⟩
    have := List.mem_filter.1 hp
    exact ⟨p, this.1, of_decide_eq_true this.2, e.symm⟩
  · rintro ⟨p, hp, h, e⟩
    exact ⟨p, List.mem_filter.2 ⟨hp, decide_eq_true h⟩, e.symm⟩
theorem visL_mem {x : NdH × Nd} : x ∈ visL Ls ↔ ∃ i p, i < Ls.length ∧ p ∈ lyA Ls i ∧ (srcs Ls p.2.names).head? = some i ∧ x = visN i p := by
  unfold visL
  rw [List.mem_flatMap]
  constructor
  · rintro ⟨i, hi, hx⟩
    obtain ⟨p, h1, h2, h3⟩ := visI_mem.1 hx
    exact ⟨i, p, List.mem_range.1 hi, h1, h2, h3⟩
  · rintro ⟨i, p, hi, h1, h2, h3⟩
    exact ⟨i, List.mem_range.2 hi, visI_mem.2 ⟨p, h1, h2, h3⟩⟩
theorem visL_names (hg : GdA Ls) : (visL Ls).Pairwise (fun a b => a.2.names ≠ b.2.names) := by
  unfold visL
  rw [List.pairwise_flatMap]
  constructor
  · intro i _
    unfold visI
    rw [List.pairwise_map]
    have h1 : ¬ twiceL (nds (lyA Ls i)) := (hg.at i).tw
    unfold twiceL at h1
    rw [Classical.not_not] at h1
    exact (List.pairwise_map.1 h1).sublist List.filter_sublist
  · have hr : (List.range Ls.length).Pairwise (· ≠ ·) := List.nodup_range
    refine hr.imp (fun {a b} hab x hx y hy e => ?_)
    obtain ⟨p, _, h1, rfl⟩ := visI_mem.1 hx
    obtain ⟨q, _, h2, rfl⟩ := visI_mem.1 hy
    have e : p.2.names = q.2.names := e
    rw [e, h2] at h1
    exact hab (Option.some.inj h1).symm
theorem visL_tw (hg : GdA Ls) : ¬ twiceL (nds (visL Ls)) := by
  unfold twiceL
  rw [Classical.not_not]
  exact List.pairwise_map.2 (visL_names hg)
theorem nodup_names {l : List (NdH × Nd)} (h : l.Pairwise (fun a b => a.2.names ≠ b.2.names)) : l.Nodup := h.imp (fun {a b} hab e => hab (by rw [e]))
/-- names that rise, and what is seen at each -/
def seeF (Ls : Lys) (s : List (List UInt8)) : Option (NdH × Nd) := match srcs Ls s with
  | [] => none
  | i :: _ => some (visN i (nAt Ls i s))
theorem seeF_some {s : List (List UInt8)} {x : NdH × Nd} : seeF Ls s = some x ↔ ∃ i r, srcs Ls s = i :: r ∧ x = visN i (nAt Ls i s) := by
  unfold seeF
  split
  · rename_i h
    rw [h]
    exact ⟨fun e => (by cases e), fun ⟨i, r, e, _⟩ => (by cases e)⟩
  · rename_i i r h
    rw [h]
    exact ⟨fun e => ⟨i, r, rfl, (Option.some.inj e).symm⟩, fun ⟨j, q, e, e2⟩ => by cases e; rw [e2]⟩
theorem seeF_names {s : List (List UInt8)} {x : NdH × Nd} (h : seeF Ls s = some x) : x.2.names = s := by
  obtain ⟨i, r, h1, rfl⟩ := seeF_some.1 h
  exact (nAt_mem (srcs_mem (by rw [h1]; simp)).2).2
theorem see_mem (hg : GdA Ls) {s : List (List UInt8)} {x : NdH × Nd} : seeF Ls s = some x ↔ x ∈ visL Ls ∧ x.2.names = s := by
  constructor
  · intro h
    have hn := seeF_names h
    obtain ⟨i, r, h1, rfl⟩ := seeF_some.1 h
    have hm := srcs_mem (Ls := Ls) (s := s) (x := i) (by rw [h1]; simp)
    have ha := nAt_mem hm.2
    exact ⟨visL_mem.2 ⟨i, _, hm.1, ha.1, by rw [ha.2, h1]; rfl, rfl⟩, hn⟩
  · rintro ⟨hx, rfl⟩
    obtain ⟨i, p, hi, hp, h1, rfl⟩ := visL_mem.1 hx
    refine seeF_some.2 ?_
    show ∃ j r, srcs Ls p.2.names = j :: r ∧ _
    rcases hs : srcs Ls p.2.names with _ | ⟨j, r⟩
    · rw [hs] at h1; cases h1
    · rw [hs] at h1; cases h1
      refine ⟨i, r, rfl, ?_⟩
      show visN i p = visN i (nAt Ls i p.2.names)
      rw [(nAt_in (hg.at i).tw hp).2]
theorem see_list (hg : GdA Ls) {ns : List (List (List UInt8))} (hs : ns.Pairwise (fun a b => lessN a b = true)) (hall : ∀ (i : Nat) (p : NdH × Nd), i < Ls.length → p ∈ lyA Ls i → p.2.names ∈ ns) :
    ns.filterMap (seeF Ls) = srtP (visL Ls) := by
  have hne : ns.Pairwise (· ≠ ·) := hs.imp (fun {a b} h e => by rw [e, lessN_irr] at h; cases h)
  have hnd : (ns.filterMap (seeF Ls)).Pairwise (fun a b => a.2.names ≠ b.2.names) := by
    rw [List.pairwise_filterMap]
    exact hne.imp (fun {a b} hab x hx y hy => by rw [seeF_names hx, seeF_names hy]; exact hab)
  refine srt_uniq (visL_tw hg) ?_ ?_
  · rw [List.perm_ext_iff_of_nodup (nodup_names hnd) (nodup_names (visL_names hg))]
    intro x
    rw [List.mem_filterMap]
    constructor
    · rintro ⟨s, _, h⟩; exact ((see_mem hg).1 h).1
    · intro hx
      refine ⟨x.2.names, ?_, (see_mem hg).2 ⟨hx, rfl⟩⟩
      obtain ⟨i, p, hi, hp, _, rfl⟩ := visL_mem.1 hx
      exact hall i p hi hp
  · rw [List.pairwise_filterMap]
    exact hs.imp (fun {a b} hab x hx y hy => by
      show lessN y.2.names x.2.names = false
      rw [seeF_names hx, seeF_names hy]; exact lessN_asym hab)
end

/-! under the reference's numbers -/
def offL (Ls : Lys) (i : Nat) : Nat := ((Ls.take i).map List.length).sum
def fstI (ps : List (NdH × Nd)) (z : Int) : Nat := ps.findIdx (fun p => decide (p.2.ino = z))
def numR (Ls : Lys) (i : Nat) (z : Int) : Int := ((offL Ls i + fstI (lyA Ls i) z : Nat) : Int)
def visQ (Ls : Lys) (i : Nat) (p : NdH × Nd) : NdH × Nd := (p.1, { p.2 with opq := false, ino := numR Ls i p.2.ino })
def refI (Ls : Lys) (i : Nat) (ps : List (NdH × Nd)) : List (NdH × Nd) := (ps.filter (fun p => decide ((srcs Ls p.2.names).head? = some i))).map (visQ Ls i)
def refL (Ls : Lys) (i : Nat) : List (NdH × Nd) := (List.range i).flatMap (fun i => refI Ls i (lyA Ls i))
def dI (c : Int) : Nat := ((c + 9223372036854775808) / 18446744073709551616).toNat
theorem dI_cd {i : Nat} {z : Int} (h : -9223372036854775808 ≤ z ∧ z ≤ 9223372036854775807) : dI (cdI i z) = i := by unfold dI cdI; omega
def gR (Ls : Lys) (c : Int) : Int := numR Ls (dI c) (c - (dI c : Int) * 18446744073709551616)
theorem gR_cd {Ls : Lys} {i : Nat} {z : Int} (h : -9223372036854775808 ≤ z ∧ z ≤ 9223372036854775807) : gR Ls (cdI i z) = numR Ls i z := by
  unfold gR
  rw [dI_cd h]
  congr 1
  unfold cdI; omega
theorem okN_ino {n : Nd} (h : okN n) : -9223372036854775808 ≤ n.ino ∧ n.ino ≤ 9223372036854775807 := h _ (by simp)
theorem ref_ren {Ls : Lys} (hg : GdA Ls) : refL Ls Ls.length = (visL Ls).map (renQ (gR Ls)) := by
  unfold refL visL
  rw [List.map_flatMap]
  have : ∀ i ∈ List.range Ls.length, refI Ls i (lyA Ls i) = (visI Ls i).map (renQ (gR Ls)) := fun i _ => by
    unfold refI visI
    rw [List.map_map]
    apply List.map_congr_left
    intro p hp
    have ho := okN_ino ((hg.at i).2.1 p (List.mem_filter.1 hp).1)
    show visQ Ls i p = renQ (gR Ls) (visN i p)
    unfold visQ renQ visN renI
    simp only
    rw [gR_cd ho]
  rw [List.flatMap_def, List.flatMap_def]
  congr 1
  exact List.map_congr_left this
theorem fstI_lt {ps : List (NdH × Nd)} {p : NdH × Nd} (h : p ∈ ps) : fstI ps p.2.ino < ps.length := List.findIdx_lt_length_of_exists ⟨p, h, by simp⟩
theorem fstI_at {ps : List (NdH × Nd)} {p : NdH × Nd} (h : p ∈ ps) : ∃ q, ps[fstI ps p.2.ino]? = some q ∧ q.2.ino = p.2.ino := by
  have hl := fstI_lt h
  exact ⟨_, List.getElem?_eq_getElem hl, of_decide_eq_true (List.findIdx_getElem (w := hl))⟩
theorem offL_succ (Ls : Lys) {i : Nat} (h : i < Ls.length) : offL Ls (i + 1) = offL Ls i + (lyA Ls i).length := by
  unfold offL
  rw [tkL (List.getElem?_eq_getElem h), List.map_append, List.sum_append]
  congr 1
  unfold lyA
  rw [List.getD, List.getElem?_eq_getElem h]
  exact Nat.add_zero _
theorem offL_le (Ls : Lys) {i j : Nat} (h : i ≤ j) : offL Ls i ≤ offL Ls j := by
  unfold offL
  have e : Ls.take i = (Ls.take j).take i := by rw [List.take_take, show min i j = i by omega]
  rw [e]
  conv => rhs; rw [← List.take_append_drop i (Ls.take j), List.map_append, List.sum_append]
  omega
theorem numR_inj {Ls : Lys} {i j : Nat} {p q : NdH × Nd} (hi : i < Ls.length) (hj : j < Ls.length) (hp : p ∈ lyA Ls i) (hq : q ∈ lyA Ls j) (h : numR Ls i p.2.ino = numR Ls j q.2.ino) : i = j ∧ p.2.ino = q.2.ino := by
  have h1 := fstI_lt hp
  have h2 := fstI_lt hq
  unfold numR at h
  have h3 := offL_succ Ls hi
  have h4 := offL_succ Ls hj
  have hij : i = j := by
    rcases Nat.lt_trichotomy i j with g | g | g
    · have := offL_le Ls (show i + 1 ≤ j by omega); omega
    · exact g
    · have := offL_le Ls (show j + 1 ≤ i by omega); omega
  subst hij
  refine ⟨rfl, ?_⟩
  obtain ⟨a, ha, e1⟩ := fstI_at hp
  obtain ⟨b, hb, e2⟩ := fstI_at hq
  have : fstI (lyA Ls i) p.2.ino = fstI (lyA Ls i) q.2.ino := by omega
  rw [this, hb] at ha; cases ha
  rw [← e1, e2]
theorem vis_ino {Ls : Lys} {c : Int} (h : c ∈ inosOf (visL Ls)) : ∃ i p, i < Ls.length ∧ p ∈ lyA Ls i ∧ c = cdI i p.2.ino := by
  obtain ⟨x, hx, rfl⟩ := List.mem_map.1 h
  obtain ⟨i, p, h1, h2, _, rfl⟩ := visL_mem.1 hx
  exact ⟨i, p, h1, h2, rfl⟩
theorem gR_inj {Ls : Lys} (hg : GdA Ls) : InjOn (gR Ls) (inosOf (visL Ls)) := fun a ha b hb e => by
  obtain ⟨i, p, hi, hp, rfl⟩ := vis_ino ha
  obtain ⟨j, q, hj, hq, rfl⟩ := vis_ino hb
  rw [gR_cd (okN_ino ((hg.at i).2.1 p hp)), gR_cd (okN_ino ((hg.at j).2.1 q hq))] at e
  obtain ⟨rfl, e2⟩ := numR_inj hi hj hp hq e
  rw [e2]
theorem twice_ren {f : Int → Int} {ps : List (NdH × Nd)} (h : ¬ twiceL (nds ps)) : ¬ twiceL (nds (ps.map (renQ f))) := by
  unfold twiceL at *
  rw [Classical.not_not] at *
  rw [nds_ren, List.pairwise_map]
  exact h
theorem ref_can {Ls : Lys} (hg : GdA Ls) : canP (refL Ls Ls.length) = canP (visL Ls) := by
  rw [ref_ren hg]
  exact can_ren (List.Perm.refl _) (gR_inj hg) (twice_ren (visL_tw hg))
end Go.Proofs.Ytpamandneifemaa
