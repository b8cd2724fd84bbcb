/- table: IDs, the program's and the reference's. No condition beyond the bounds that each states. -/
import Derived.Test.YtoaplldahbbaiaaIdPk
import Derived.Test.YtoaplldahbbaiaaTpDk
namespace Go.Proofs.Ytoaplldahbbaiaa
open Go Go.RowKit Go.Maps
set_option linter.unusedVariables false

theorem setM_keys {α : Type} [DecidableEq α] (a : α) (v : Value) : ∀ l : List (α × Value), (setM l a v).map (·.1) = if a ∈ l.map (·.1) then l.map (·.1) else l.map (·.1) ++ [a]
  | [] => by simp [setM]
  | p :: r => by
    unfold setM
    by_cases hp : p.1 = a
    · rw [if_pos hp]; simp [hp]
    · rw [if_neg hp]
      simp only [List.map_cons, setM_keys a v r]
      by_cases hm : a ∈ r.map (·.1)
      · rw [if_pos hm, if_pos (List.mem_cons_of_mem _ hm)]
      · rw [if_neg hm, if_neg (fun e => by rcases List.mem_cons.1 e with e | e; exact hp e.symm; exact hm e)]; rfl
theorem setM_memK {α : Type} [DecidableEq α] {a x : α} {v : Value} {l : List (α × Value)} : x ∈ (setM l a v).map (·.1) ↔ x = a ∨ x ∈ l.map (·.1) := by
  rw [setM_keys]
  split
  · rename_i h
    exact ⟨.inr, fun hx => hx.elim (fun e => e ▸ h) id⟩
  · rw [List.mem_append, List.mem_singleton]; exact Or.comm
theorem setM_len {α : Type} [DecidableEq α] {a : α} {v : Value} {l : List (α × Value)} : (setM l a v).length ≤ l.length + 1 := by
  have h := congrArg List.length (setM_keys a v l)
  rw [List.length_map] at h
  split at h <;> simp at h <;> omega
theorem setM_vals {α : Type} [DecidableEq α] {a : α} {v : Value} : ∀ {l : List (α × Value)}, (∀ p ∈ l, p.2 = v) → ∀ p ∈ setM l a v, p.2 = v
  | [], _, p, hp => by simp [setM] at hp; rw [hp]
  | q :: r, h, p, hp => by
    unfold setM at hp
    split at hp
    · rcases List.mem_cons.1 hp with rfl | hp
      · rfl
      · exact h p (List.mem_cons_of_mem _ hp)
    · rcases List.mem_cons.1 hp with rfl | hp
      · exact h _ (List.mem_cons_self ..)
      · exact setM_vals (fun x hx => h x (List.mem_cons_of_mem _ hx)) p hp
def ownZ (ps : List (NdH × Nd)) : List Int := ps.flatMap fun p => [p.2.ud, p.2.gd]
theorem ownZ_snoc (ps : List (NdH × Nd)) (p : NdH × Nd) : ownZ (ps ++ [p]) = ownZ ps ++ [p.2.ud, p.2.gd] := by simp [ownZ]
def IdsL (ps : List (NdH × Nd)) (L : List Int) : Prop := L.Pairwise (· < ·) ∧ ∀ z, z ∈ L ↔ z ∈ ownZ ps
theorem IdsL.eq {ps : List (NdH × Nd)} {A B : List Int} (h : IdsL ps A) (k : IdsL ps B) : A = B := by
  have hp : A.Perm B := (List.perm_ext_iff_of_nodup (h.1.imp (fun h => by omega)) (k.1.imp (fun h => by omega))).2 (fun z => (h.2 z).trans (k.2 z).symm)
  exact List.Perm.eq_of_pairwise (le := (· < ·)) (fun a b _ _ h1 h2 => by omega) h.1 k.1 hp
theorem ids_of {ps : List (NdH × Nd)} {m : List (I6 × Value)} (hn : (m.map (·.1)).Nodup) (hm : ∀ z, z ∈ m.map (·.1.1) ↔ z ∈ ownZ ps) : IdsL ps ((m.map (·.1.1)).mergeSort leI) := by
  have tr : ∀ a b c : Int, leI a b = true → leI b c = true → leI a c = true := fun a b c h1 h2 => by simp only [leI, decide_eq_true_eq] at *; exact Int.le_trans h1 h2
  have to : ∀ a b : Int, (leI a b || leI b a) = true := fun a b => by simp only [leI, Bool.or_eq_true, decide_eq_true_eq]; exact Int.le_total a b
  have hnd : (m.map (·.1.1)).Nodup := by
    have : m.map (·.1.1) = (m.map (·.1)).map (·.1) := by rw [List.map_map]; rfl
    rw [this]
    exact List.Pairwise.map _ (fun a b h e => h (Subtype.ext e)) hn
  have hp := List.mergeSort_perm (m.map (·.1.1)) leI
  refine ⟨?_, fun z => (hp.mem_iff).trans (hm z)⟩
  have h1 := List.pairwise_mergeSort tr to (m.map (·.1.1))
  have h2 : ((m.map (·.1.1)).mergeSort leI).Nodup := hp.nodup_iff.2 hnd
  exact (h1.and h2).imp (fun ⟨a, b⟩ => by simp only [leI, decide_eq_true_eq] at a; omega)
theorem tkP {ps : List (NdH × Nd)} {i : Nat} {p : NdH × Nd} (h : ps[i]? = some p) : ps.take (i + 1) = ps.take i ++ [p] := by
  have hi := (List.getElem?_eq_some_iff.1 h).1
  rw [List.take_succ_eq_append_getElem hi, (List.getElem?_eq_some_iff.1 h).2]
theorem twoMem {ps : List (NdH × Nd)} {i : Nat} {p : NdH × Nd} {m : List (I6 × Value)} {v : Value} (hp : ps[i]? = some p) (hmem : ∀ z, z ∈ m.map (·.1.1) ↔ z ∈ ownZ (ps.take i)) (hu : -9223372036854775808 ≤ p.2.ud ∧ p.2.ud ≤ 9223372036854775807) (hg : -9223372036854775808 ≤ p.2.gd ∧ p.2.gd ≤ 9223372036854775807) :
    ∀ z, z ∈ (setM (setM m (⟨p.2.ud, hu⟩ : I6) v) (⟨p.2.gd, hg⟩ : I6) v).map (·.1.1) ↔ z ∈ ownZ (ps.take (i + 1)) := by
  have e : ∀ l : List (I6 × Value), ∀ z, z ∈ l.map (·.1.1) ↔ ∃ a ∈ l.map (·.1), a.1 = z := fun l z => by simp
  intro z
  rw [tkP hp, ownZ_snoc, List.mem_append, ← hmem z, e, e]
  constructor
  · rintro ⟨a, ha, rfl⟩
    rcases setM_memK.1 ha with rfl | ha
    · exact .inr (by simp)
    · rcases setM_memK.1 ha with rfl | ha
      · exact .inr (by simp)
      · exact .inl ⟨a, ha, rfl⟩
  · rintro (⟨a, ha, rfl⟩ | h)
    · exact ⟨a, setM_memK.2 (.inr (setM_memK.2 (.inr ha))), rfl⟩
    · simp only [List.mem_cons, List.not_mem_nil, or_false] at h
      rcases h with rfl | rfl
      · exact ⟨⟨p.2.ud, hu⟩, setM_memK.2 (.inr (setM_memK.2 (.inl rfl))), rfl⟩
      · exact ⟨⟨p.2.gd, hg⟩, setM_memK.2 (.inl rfl), rfl⟩
set_option maxHeartbeats 4000000 in
theorem ids_ok (lo : Option Addr) (lc : Nat) (ps : List (NdH × Nd)) (W : World) (hv : VwM 10 encN W.heap lo lc ps) (hok : ∀ p ∈ ps, okN p.2) (hl : ps.length ≤ 1000) :
    Calls Try.prog 37 [.slice lo ps.length lc].toArray W (Ret fun v w' => ∃ o c L, v = .slice o (List.length (α := Int) L) c ∧ Own i64 3 w'.heap o c L ∧ Fr W.heap.size o ∧ IdsL ps L ∧ Foot nob W w') := by
  refine calls_of_sc 25 [(0, _)] Try.func37 rfl rfl rfl (enter_slots ⟨rfl, trivial⟩) ?_
  refine Sc.seq ?_
  refine Sc.region ?_
  refine Sl.calm (Cm.assign rfl) rfl ?_
  refine Sl.nil ?_
  refine At.go ?_
  refine Sc.seq ?_
  refine Sc.region ?_
  refine Sl.makeMap (enc := enI) rfl ?_
  intro w1 hm1 hs1 hf1
  obtain ⟨g, hg⟩ : ∃ g, g = W.heap.size := ⟨_, rfl⟩
  rw [← hg] at hm1 ⊢
  refine Sl.calm (Cm.assign rfl) rfl ?_
  refine Sl.nil ?_
  refine At.weak [(0, _), (2, _), (3, _)] ⟨rfl, rfl, rfl, trivial⟩ ?_
  refine At.go ?_
  refine Sc.seq ?_
  refine Sc.seq ?_
  refine Sc.region ?_
  refine Sl.calm (Cm.move rfl) rfl ?_
  refine Sl.calm (Cm.len sl65 rfl) rfl ?_
  refine Sl.calm (Cm.move rfl) rfl ?_
  refine Sl.nil ?_
  refine At.go ?_
  refine Sc.block ?_
  refine Sc.loop (β := Nat × List (I6 × Value)) (fun ⟨i, m⟩ => [(3, .map (some g)), (7, .slice lo ps.length lc), (8, .int .i64 ps.length), (9, .int .i64 i)]) (fun ⟨i, m⟩ w => i ≤ ps.length ∧ MapL enI w.heap g m ∧ (∀ p ∈ m, p.2 = .bool true) ∧ (∀ z, z ∈ m.map (·.1.1) ↔ z ∈ ownZ (ps.take i)) ∧ m.length ≤ 2 * i ∧ Foot nob W w) (fun ⟨i, m⟩ => ps.length - i) ⟨0, []⟩ ⟨rfl, rfl, rfl, rfl, trivial⟩ ⟨Nat.zero_le _, hm1, by simp, by simp [ownZ], Nat.zero_le _, hf1⟩ ?_
  rintro ⟨i, m⟩ w2 ⟨hi, hm2, hmv, hmem, hml, hF2⟩
  refine Sc.seq ?_
  refine Sc.region ?_
  refine Sl.fork (Cm.lss rfl rfl) rfl (fun h10 => ?_) (fun h10 => ?_)
  ·
    have hil : i < ps.length := by omega
    obtain ⟨p, hp⟩ : ∃ p, ps[i]? = some p := ⟨_, List.getElem?_eq_getElem hil⟩
    have hpo := hok p (List.mem_of_getElem? hp)
    have hu := hpo p.2.ud (by simp)
    have hgd := hpo p.2.gd (by simp)
    have hv2 := hv.keep hF2 (fun _ _ => id)
    refine Sl.nil ?_
    refine At.go ?_
    refine Sc.seq ?_
    refine Sc.cond_t rfl ?_
    refine Sc.skip ?_
    refine At.go ?_
    refine Sc.cut (β := List (I6 × Value)) (fun m2 => [(3, .map (some g)), (7, .slice lo ps.length lc), (8, .int .i64 ps.length), (9, .int .i64 i)]) (fun m2 w => MapL enI w.heap g m2 ∧ (∀ p ∈ m2, p.2 = .bool true) ∧ (∀ z, z ∈ m2.map (·.1.1) ↔ z ∈ ownZ (ps.take (i + 1))) ∧ m2.length ≤ 2 * (i + 1) ∧ Foot nob W w) ?_ ?_
    ·
      refine Sc.block ?_
      refine Sc.seq ?_
      refine Sc.region ?_
      refine Sl.calm (Cm.indexAddr sl65 rfl rfl hv2.non (by omega)) rfl ?_
      refine Sl.calm (Cm.ldM (cs := encN p) agg72 rfl (fun j v hj => hv2.rowZ i rfl hp j v hj)) rfl ?_
      refine Sl.allocC zc72 rfl ?_
      intro w3 hg3 hs3 hf3
      obtain ⟨q, hq⟩ : ∃ q, q = w2.heap.size := ⟨_, rfl⟩
      rw [← hq] at hg3 ⊢
      have hm3 := hm2.keep hf3 id
      have hgl := hm2.obj
      refine Sl.storeAll (vs := encN p) agg72 rfl rfl (encN_cells p).2 hg3 rfl ?_
      intro w4 hg4 hs4 hf4
      have hm4 := hm3.keep hf4 (fun e => by have e : g = q := e; omega)
      have hF4 : Foot nob W w4 := (hF2.trans hf3).trans_to hf4 (fun k e => .inr (by have e : k = q := e; have := hF2.size; omega))
      refine Sl.nil ?_
      refine At.weak [(3, _), (5, _), (7, _), (8, _), (9, _), (10, _)] ⟨rfl, rfl, rfl, rfl, rfl, rfl, trivial⟩ ?_
      refine At.go ?_
      refine Sc.draw 10 (fun H => H[q]? = some (.cells (encN p).toArray 72 (0, 0))) [8, 9] [0, 1, 2, 3, 4, 5, 6, 7, 8, 9] mixed (by kernel_rfl) (hg4) ?_
      refine Sx.calm rfl rfl (Cm.move rfl) rfl ?_
      refine Sx.calm rfl rfl (Cm.field fld72_3 rfl) rfl ?_
      refine Sx.calm rfl rfl (Cm.field fld69_1 rfl) rfl ?_
      refine Sx.calm rfl rfl (Cm.load sca3 rfl (fun H hH => show cellH H ((⟨q, 0, none⟩ : Addr).add 4) = some (.int .i64 p.2.ud) from cellF hH rfl)) rfl ?_
      refine Sx.calm rfl rfl (Cm.move rfl) rfl ?_
      refine Sx.calm rfl rfl (Cm.field fld72_3 rfl) rfl ?_
      refine Sx.calm rfl rfl (Cm.field fld69_2 rfl) rfl ?_
      refine Sx.calm rfl rfl (Cm.load sca3 rfl (fun H hH => show cellH H ((⟨q, 0, none⟩ : Addr).add 5) = some (.int .i64 p.2.gd) from cellF hH rfl)) rfl ?_
      refine Sx.eff rfl rfl (Sl.mapUpdate mpB keyI (a := (⟨p.2.ud, hu⟩ : I6)) rfl rfl rfl hm4 ?_)
      intro w5 hm5 hs5 hf5
      have hf5 := hf5.undraw
      refine Sx.on (by exact hf5.obj hg4 (fun e => by have e : q = g := e; omega)) ?_
      refine Sx.eff rfl rfl (Sl.mapUpdate mpB keyI (a := (⟨p.2.gd, hgd⟩ : I6)) rfl rfl rfl hm5 ?_)
      intro w6 hm6 hs6 hf6
      have hF6 : Foot nob W w6 := (hF4.trans_to hf5 (fun k e => .inr (by have e : k = g := e; omega))).trans_to hf6 (fun k e => .inr (by have e : k = g := e; omega))
      refine Sx.on (by exact hf6.obj (hf5.obj hg4 (fun e => by have e : q = g := e; omega)) (fun e => by have e : q = g := e; omega)) ?_
      refine Sx.nil ?_
      refine At.block_normal ?_
      exact At.cut _ ⟨rfl, rfl, rfl, rfl, trivial⟩ ⟨hm6, setM_vals (setM_vals hmv), twoMem hp hmem hu hgd, by have := setM_len (a := (⟨p.2.ud, hu⟩ : I6)) (v := .bool true) (l := m); have := setM_len (a := (⟨p.2.gd, hgd⟩ : I6)) (v := .bool true) (l := setM m (⟨p.2.ud, hu⟩ : I6) (.bool true)); omega, hF6⟩
    ·
      rintro m2 w9 ⟨hm9, hmv9, hmem9, hml9, hF9⟩
      refine Sc.region ?_
      refine Sl.calm (Cm.add64 rfl rfl (by omega)) rfl ?_
      refine Sl.calm (Cm.move rfl) rfl ?_
      refine Sl.nil ?_
      exact At.again ⟨i + 1, m2⟩ ⟨rfl, rfl, rfl, rfl, trivial⟩ ⟨by omega, hm9, hmv9, hmem9, hml9, hF9⟩ (by show ps.length - (i + 1) < ps.length - i; omega)
  ·
    have hie : i = ps.length := by omega
    subst hie
    rw [List.take_length] at hmem
    refine Sl.nil ?_
    refine At.go ?_
    refine Sc.seq ?_
    refine Sc.cond_f rfl ?_
    refine Sc.exit ?_
    refine At.then_exit ?_
    refine At.then_exit ?_
    refine At.block_hit ?_
    refine At.go ?_
    refine Sc.seq ?_
    refine Sc.region ?_
    refine Sl.calm (Cm.move rfl) rfl ?_
    refine Sl.call fn68 rfl (keys_ok (some g) w2) rfl ?_
    rintro _ w7 ⟨rfl, rfl⟩
    refine Sl.call fn67 rfl (sorted_ok g m w2 hm2 hmv (by omega)) rfl ?_
    rintro _ w8 ⟨o8, c8, rfl, ho8, hfr8, hf8⟩
    refine Sl.calm (Cm.assign rfl) rfl ?_
    refine Sl.nil ?_
    refine At.weak [(2, _), (3, _), (7, _), (8, _), (9, _), (10, _)] ⟨rfl, rfl, rfl, rfl, rfl, rfl, trivial⟩ ?_
    refine At.go ?_
    refine Sc.ret ?_
    refine At.ret1 rfl rfl ?_
    exact ⟨_, rfl, o8, c8, _, rfl, ho8, by rw [hg]; exact hfr8.mono hF2.size, ids_of hm2.2 hmem, hF2.trans hf8⟩
end Go.Proofs.Ytoaplldahbbaiaa
