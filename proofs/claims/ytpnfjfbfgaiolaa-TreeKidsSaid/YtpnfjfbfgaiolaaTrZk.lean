/- tree: the law TreeSorted. No condition beyond the bounds that each states. -/
import Derived.Test.YtpnfjfbfgaiolaaTrYk
namespace Go.Proofs.Ytpnfjfbfgaiolaa
open Go Go.RowKit Go.Maps
set_option linter.unusedVariables false

theorem twice_perm {ps qs : List (NdH × Nd)} (h : qs.Perm ps) (ht : ¬ twiceL (nds ps)) : ¬ twiceL (nds qs) := by
  unfold twiceL at *
  rw [Classical.not_not] at *
  exact ((h.map (·.2)).pairwise_iff (R := fun a b : Nd => a.names ≠ b.names) (fun h e => h e.symm)).2 ht
theorem srt_lt {ps : List (NdH × Nd)} (ht : ¬ twiceL (nds ps)) {i j : Nat} {p q : NdH × Nd} (hij : i < j) (hp : (srtP ps)[i]? = some p) (hq : (srtP ps)[j]? = some q) : lessN p.2.names q.2.names = true := by
  have e1 := List.getElem?_eq_some_iff.1 hp
  have e2 := List.getElem?_eq_some_iff.1 hq
  have h := List.pairwise_iff_getElem.1 (srt_ord ps) i j e1.1 e2.1 hij
  rw [e1.2, e2.2] at h
  rcases lessN_not.1 h with e | h
  · exact absurd ((twice_iff (srtP ps)).2 ⟨i, j, p, q, hij, hp, hq, e.symm⟩) (twice_perm (srt_perm ps) ht)
  · exact h
theorem can_at {ps qs : List (NdH × Nd)} (hq : nds qs = nds (canP ps)) {i : Nat} {q : NdH × Nd} (h : qs[i]? = some q) : ∃ p, (srtP ps)[i]? = some p ∧ q.2 = (renP (inosOf (srtP ps)) p).2 := by
  have h1 := nds_get h
  rw [hq] at h1
  simp only [nds, canP, numP, List.getElem?_map, Option.map_eq_some_iff] at h1
  obtain ⟨a, ⟨p, hp, e⟩, e2⟩ := h1
  exact ⟨p, hp, by rw [← e2, ← e]⟩
theorem can_of {ps qs : List (NdH × Nd)} (hq : nds qs = nds (canP ps)) {i : Nat} {p : NdH × Nd} (h : (srtP ps)[i]? = some p) : ∃ q, qs[i]? = some q ∧ q.2 = (renP (inosOf (srtP ps)) p).2 := by
  have hl : qs.length = (srtP ps).length := by have := congrArg List.length hq; simpa [nds, canP, numP] using this
  have hi := (List.getElem?_eq_some_iff.1 h).1
  obtain ⟨q, hqi⟩ : ∃ q, qs[i]? = some q := ⟨_, List.getElem?_eq_getElem (by omega)⟩
  obtain ⟨p', hp', e⟩ := can_at hq hqi
  rw [h] at hp'; cases hp'
  exact ⟨q, hqi, e⟩
theorem can_len {ps qs : List (NdH × Nd)} (hq : nds qs = nds (canP ps)) : qs.length = ps.length := by
  have := congrArg List.length hq
  have h2 := (srt_perm ps).length_eq
  simp [nds, canP, numP] at this
  omega
theorem can_lt {ps qs : List (NdH × Nd)} (ht : ¬ twiceL (nds ps)) (hq : nds qs = nds (canP ps)) {i j : Nat} {p q : NdH × Nd} (hij : i < j) (hp : qs[i]? = some p) (h : qs[j]? = some q) : lessN p.2.names q.2.names = true := by
  obtain ⟨a, ha, e1⟩ := can_at hq hp
  obtain ⟨b, hb, e2⟩ := can_at hq h
  have := srt_lt ht hij ha hb
  rw [e1, e2]; exact this
theorem less_nilN (a : List (List UInt8)) : lessN a [] = false := by cases a <;> rfl
theorem plc0_dirs {l : List Nd} (h : plc l = 0) : dirAt l [] ∧ ∀ n ∈ l, n.names ≠ [] → dirAt l n.names.dropLast := by
  unfold plc at h
  by_cases h0 : 1024 < l.length
  · rw [if_pos h0] at h; cases h
  · rw [if_neg h0] at h
    by_cases h1 : nmd l = 0
    · rw [if_neg (fun g => g h1)] at h
      by_cases h2 : dirAt l []
      · rw [if_neg (fun g => g h2)] at h
        by_cases h3 : ∃ n ∈ l, n.names ≠ [] ∧ ¬ dirAt l n.names.dropLast
        · rw [if_pos h3] at h; cases h
        · exact ⟨h2, fun n hn hne => Classical.byContradiction fun hd => h3 ⟨n, hn, hne, hd⟩⟩
      · rw [if_pos h2] at h; cases h
    · rw [if_pos h1] at h; exact absurd h h1
theorem can_dir {ps qs : List (NdH × Nd)} (hq : nds qs = nds (canP ps)) {s : List (List UInt8)} (h : dirAt (nds ps) s) : ∃ (k : Nat) (r : NdH × Nd), qs[k]? = some r ∧ r.2.names = s ∧ r.2.kind = 1 := by
  obtain ⟨n, hn, h1, h2⟩ := h
  obtain ⟨p, hp, rfl⟩ := List.mem_map.1 hn
  obtain ⟨k, hk⟩ := List.getElem?_of_mem ((srt_perm ps).mem_iff.2 hp)
  obtain ⟨r, hr, e⟩ := can_of hq hk
  exact ⟨k, r, hr, by rw [e]; exact h1, by rw [e]; exact h2⟩
theorem can_root {ps qs : List (NdH × Nd)} (hz : chk (nds ps) = 0) (hq : nds qs = nds (canP ps)) {q : NdH × Nd} (h : qs[0]? = some q) : q.2.names = [] := by
  obtain ⟨k, r, hr, h1, _⟩ := can_dir hq (plc0_dirs (chk_plc0 hz)).1
  by_cases hk : k = 0
  · subst hk; rw [hr] at h; cases h; exact h1
  · have := can_lt (chk_twice hz) hq (show 0 < k by omega) h hr
    rw [h1, less_nilN] at this; cases this
theorem less_drop {s : List (List UInt8)} (h : s ≠ []) : lessN s.dropLast s = true := by
  have e : s = s.dropLast ++ [s.getLast h] := (List.dropLast_concat_getLast h).symm
  have : cmpL s.dropLast s = cmpL [] [s.getLast h] := by
    conv => lhs; rw [e]
    have := cmpL_app s.dropLast [] [s.getLast h]
    rw [List.append_nil] at this
    rw [List.dropLast_concat]; exact this
  unfold lessN; rw [this]; rfl
theorem can_up {ps qs : List (NdH × Nd)} (hz : chk (nds ps) = 0) (hq : nds qs = nds (canP ps)) {i : Nat} {q : NdH × Nd} (h : qs[i]? = some q) (hne : q.2.names ≠ []) : ∃ (k : Nat) (r : NdH × Nd), k < i ∧ qs[k]? = some r ∧ r.2.names = q.2.names.dropLast ∧ r.2.kind = 1 := by
  obtain ⟨p, hp, e⟩ := can_at hq h
  have hpm : p.2 ∈ nds ps := List.mem_map.2 ⟨p, (srt_perm ps).mem_iff.1 (List.mem_of_getElem? hp), rfl⟩
  have en : q.2.names = p.2.names := by rw [e]; rfl
  obtain ⟨k, r, hr, h1, h2⟩ := can_dir hq ((plc0_dirs (chk_plc0 hz)).2 p.2 hpm (by rw [← en]; exact hne))
  refine ⟨k, r, ?_, hr, by rw [h1, en], h2⟩
  apply Classical.byContradiction
  intro hk
  have hl := less_drop hne
  rw [en, ← h1, ← en] at hl
  by_cases e2 : k = i
  · subst e2; rw [h] at hr; cases hr; rw [lessN_irr] at hl; cases hl
  · have := can_lt (chk_twice hz) hq (show i < k by omega) h hr
    rw [lessN_asym hl] at this; cases this
def seenN (ps : List (NdH × Nd)) (i : Nat) : Nat := (seenOf (inosOf ((srtP ps).take i))).length
theorem can_ino {ps qs : List (NdH × Nd)} (hq : nds qs = nds (canP ps)) {i : Nat} {q : NdH × Nd} (h : qs[i]? = some q) : 1 ≤ q.2.ino ∧ q.2.ino ≤ (seenN ps i : Int) + 1 ∧ ((seenN ps (i + 1) : Nat) : Int) = if (seenN ps i : Int) < q.2.ino then q.2.ino else (seenN ps i : Int) := by
  obtain ⟨p, hp, e⟩ := can_at hq h
  have ei : q.2.ino = numZ (inosOf (srtP ps)) p.2.ino := by rw [e]; rfl
  rw [ei]
  refine ⟨numZ_pos _ _, ?_⟩
  unfold seenN
  rw [inos_tk hp]
  by_cases hm : p.2.ino ∈ inosOf ((srtP ps).take i)
  · have h1 : numZ (inosOf (srtP ps)) p.2.ino ≤ ((seenOf (inosOf ((srtP ps).take i))).length : Int) := by
      obtain ⟨r, hr⟩ := seen_app (inosOf ((srtP ps).take i)) (p.2.ino :: inosOf ((srtP ps).drop (i + 1)))
      rw [inos_split hp]
      unfold numZ
      rw [hr, List.idxOf_append, if_pos (seen_mem.2 hm)]
      have := List.idxOf_lt_length_iff.2 (seen_mem.2 hm)
      omega
    rw [seen_len_old hm]; exact ⟨by omega, by rw [if_neg (by omega)]⟩
  · have h1 : numZ (inosOf (srtP ps)) p.2.ino = ((seenOf (inosOf ((srtP ps).take i))).length : Nat) + 1 := by rw [inos_split hp, numZ_new hm]
    rw [seen_len_new hm, h1]; exact ⟨by omega, by rw [if_pos (by omega)]; omega⟩
theorem seenN_le {ps : List (NdH × Nd)} (h : ps.length ≤ 60) (i : Nat) : (seenN ps i : Int) ≤ 60 := by
  have h1 := seen_le (inosOf ((srtP ps).take i))
  have h2 : (inosOf ((srtP ps).take i)).length ≤ (srtP ps).length := by unfold inosOf; rw [List.length_map, List.length_take]; omega
  have h3 := (srt_perm ps).length_eq
  unfold seenN; omega
def upA (qs : List (NdH × Nd)) (q : NdH × Nd) (k : Nat) : Prop := q.2.names = [] ∨ ∃ (j : Nat) (r : NdH × Nd), j < k ∧ qs[j]? = some r ∧ r.2.names = q.2.names.dropLast ∧ r.2.kind = 1
theorem upA_succ {qs : List (NdH × Nd)} {q r : NdH × Nd} {k : Nat} (hr : qs[k]? = some r) : upA qs q (k + 1) ↔ upA qs q k ∨ (r.2.names = q.2.names.dropLast ∧ r.2.kind = 1) := by
  unfold upA
  constructor
  · rintro (h | ⟨j, s, hj, hs, h1, h2⟩)
    · exact .inl (.inl h)
    · by_cases e : j = k
      · subst e; rw [hr] at hs; cases hs; exact .inr ⟨h1, h2⟩
      · exact .inl (.inr ⟨j, s, by omega, hs, h1, h2⟩)
  · rintro ((h | ⟨j, s, hj, hs, h1, h2⟩) | ⟨h1, h2⟩)
    · exact .inl h
    · exact .inr ⟨j, s, by omega, hs, h1, h2⟩
    · exact .inr ⟨k, r, by omega, hr, h1, h2⟩
variable {D : Nat → Prop}
set_option maxHeartbeats 4000000 in
theorem treeSorted_ok (lo : Option Addr) (lc : Nat) (ps : List (NdH × Nd)) (W : World) (hv : NodesV D W.heap lo lc ps) (hw : ∀ p ∈ ps, okN p.2 ∧ smN p.2) :
    Calls Try.prog 8 [.slice lo ps.length lc].toArray W (Ret fun v w' => v = .bool true ∧ Foot nob W w') := by
  have hfl := few_len ps
  refine calls_of_sc 146 [(0, _)] Try.func8 rfl rfl rfl (enter_slots ⟨rfl, trivial⟩) ?_
  refine Sc.seq ?_
  refine Sc.region ?_
  refine Sl.calm (Cm.assign rfl) rfl ?_
  refine Sl.nil ?_
  refine At.go ?_
  refine Sc.seq ?_
  refine Sc.region ?_
  refine Sl.call fn10 rfl (shown_ok W) rfl ?_
  rintro _ w1 ⟨rfl, hf1⟩
  refine Sl.calm (Cm.assign rfl) rfl ?_
  refine Sl.nil ?_
  refine At.weak [(0, _), (2, _), (3, _)] ⟨rfl, rfl, rfl, trivial⟩ ?_
  refine At.go ?_
  refine Sc.seq ?_
  refine Sc.region ?_
  refine Sl.calm (Cm.move rfl) rfl ?_
  refine Sl.call fn11 rfl (few_ok lo lc ps w1 (hv.grow hf1)) rfl ?_
  rintro _ w2 ⟨o, c, rfl, ho, hfo, hf2, hvf⟩
  obtain ⟨ls, hls⟩ : ∃ ls, ls = fewL ps := ⟨_, rfl⟩
  have hok2 := ok_few hw
  have hsm2 := sm_few hw
  rw [← hls] at hvf hok2 hsm2 hfl ⊢
  refine Sl.calm (Cm.assign rfl) rfl ?_
  refine Sl.nil ?_
  refine At.weak [(0, _), (2, _), (3, _)] ⟨rfl, rfl, rfl, trivial⟩ ?_
  refine At.go ?_
  refine Sc.seq ?_
  refine Sc.region ?_
  refine Sl.calm (Cm.move rfl) rfl ?_
  refine Sl.call fn22 rfl (canon_ok o c ls w2 hvf hsm2 hok2) rfl ?_
  rintro _ w3 ⟨oa, ca, qs, rfl, ha1, ha2, hva, hfa, hf3⟩
  have hF3 := (hf1.trans hf2).trans hf3
  refine Sl.calm (Cm.move rfl) rfl ?_
  refine Sl.calm (Cm.extract rfl rfl) rfl ?_
  refine Sl.calm (Cm.extract rfl rfl) rfl ?_
  refine Sl.calm (Cm.assign rfl) rfl ?_
  refine Sl.calm (Cm.assign rfl) rfl ?_
  refine Sl.nil ?_
  refine At.weak [(0, _), (2, _), (3, _), (4, _), (5, _)] ⟨rfl, rfl, rfl, rfl, rfl, trivial⟩ ?_
  refine At.go ?_
  refine Sc.seq ?_
  refine Sc.seq ?_
  refine Sc.region ?_
  refine Sl.calm (Cm.move rfl) rfl ?_
  refine Sl.fork (Cm.neq rfl rfl) rfl (fun h20 => ?_) (fun h20 => ?_)
  ·
    have hq0 := ha1 h20
    refine Sl.nil ?_
    refine At.weak [(0, _), (2, _), (3, _), (4, _), (5, _), (20, _)] ⟨rfl, rfl, rfl, rfl, rfl, rfl, trivial⟩ ?_
    refine At.go ?_
    refine Sc.cond_t rfl ?_
    refine Sc.seq ?_
    refine Sc.region ?_
    refine Sl.calm (Cm.move rfl) rfl ?_
    refine Sl.calm (Cm.move rfl) rfl ?_
    refine Sl.want rfl rfl (Cm.move rfl) rfl ?_
    refine Sl.want rfl rfl (Cm.len sl22 rfl) rfl ?_
    refine Sl.want rfl rfl (Cm.yes (Cm.eql rfl rfl) (by rw [hq0]; rfl)) rfl ?_
    refine Sl.calm (Cm.pick_t rfl rfl) rfl ?_
    refine Sl.calm (Cm.assign rfl) rfl ?_
    refine Sl.nil ?_
    refine At.weak [(0, _), (2, _), (3, _), (4, _), (5, _), (20, _)] ⟨rfl, rfl, rfl, rfl, rfl, rfl, trivial⟩ ?_
    refine At.go ?_
    refine Sc.ret ?_
    refine At.then_ret ?_
    refine At.ret1 rfl rfl ?_
    first
      | exact ⟨_, rfl, rfl, hF3⟩
      | exact ⟨_, rfl, rfl, hF3.trans hF4⟩
  ·
    have hz : chk (nds ls) = 0 := Classical.not_not.1 h20
    have hq := ha2 hz
    have hql := can_len hq
    have hne : ls ≠ [] := fun e => by subst e; exact absurd hz (by decide +kernel)
    have hl0 := List.length_pos_iff.2 hne
    obtain ⟨q0, hq0⟩ : ∃ q0, qs[0]? = some q0 := ⟨_, List.getElem?_eq_getElem (by omega)⟩
    have hq0n := can_root hz hq hq0
    have hn0 := (hva.2 q0 (List.mem_of_getElem? hq0)).1
    refine Sl.nil ?_
    refine At.weak [(0, _), (2, _), (3, _), (4, _), (5, _), (20, _)] ⟨rfl, rfl, rfl, rfl, rfl, rfl, trivial⟩ ?_
    refine At.go ?_
    refine Sc.cond_f rfl ?_
    refine Sc.skip ?_
    refine At.go ?_
    refine Sc.seq ?_
    refine Sc.seq ?_
    refine Sc.region ?_
    refine Sl.calm (Cm.move rfl) rfl ?_
    refine Sl.calm (Cm.len sl22 rfl) rfl ?_
    refine Sl.calm (Cm.move rfl) rfl ?_
    refine Sl.calm (Cm.len sl22 rfl) rfl ?_
    refine Sl.calm (Cm.no (Cm.neq rfl rfl) (by omega)) rfl ?_
    refine Sl.calm (Cm.move rfl) rfl ?_
    refine Sl.want rfl rfl (Cm.move rfl) rfl ?_
    refine Sl.want rfl rfl (Cm.len sl22 rfl) rfl ?_
    refine Sl.want rfl rfl (Cm.no (Cm.eql rfl rfl) (by omega)) rfl ?_
    refine Sl.calm (Cm.pick_f rfl rfl) rfl ?_
    refine Sl.calm (Cm.move rfl) rfl ?_
    refine Sl.want rfl rfl (Cm.move rfl) rfl ?_
    refine Sl.want rfl rfl (Cm.indexAddr sl22 rfl rfl hva.1.non (by omega)) rfl ?_
    refine Sl.want rfl rfl (Cm.field fld34_0 rfl) rfl ?_
    refine Sl.want rfl rfl (Cm.ld sca28 rfl (hva.1.rowZ 0 rfl hq0 0 _ rfl)) rfl ?_
    refine Sl.want rfl rfl (Cm.len sl28 rfl) rfl ?_
    rw [hn0.1, hq0n]
    refine Sl.want rfl rfl (Cm.no (Cm.neq rfl rfl) (by simp)) rfl ?_
    refine Sl.calm (Cm.pick_f rfl rfl) rfl ?_
    refine Sl.nil ?_
    refine At.weak [(0, _), (2, _), (3, _), (4, _), (5, _), (20, _), (44, _)] ⟨rfl, rfl, rfl, rfl, rfl, rfl, rfl, trivial⟩ ?_
    refine At.go ?_
    refine Sc.cond_f rfl ?_
    refine Sc.skip ?_
    refine At.go ?_
    refine Sc.seq ?_
    refine Sc.region ?_
    refine Sl.calm (Cm.assign rfl) rfl ?_
    refine Sl.nil ?_
    refine At.go ?_
    refine Sc.seq ?_
    refine Sc.seq ?_
    refine Sc.region ?_
    refine Sl.calm (Cm.assign rfl) rfl ?_
    refine Sl.nil ?_
    refine At.go ?_
    refine Sc.block ?_
    refine Sc.loop (β := Nat) (fun i => [(3, .bool true), (4, .slice oa qs.length ca), (6, .int .i64 ((seenN ls i : Nat) : Int)), (7, .int .i64 i)]) (fun i w => i ≤ qs.length ∧ Foot nob w3 w) (fun i => qs.length - i) 0 ⟨rfl, rfl, rfl, rfl, trivial⟩ ⟨Nat.zero_le _, Foot.refl _ _⟩ ?_
    rintro i w4 ⟨hi, hF4⟩
    refine Sc.seq ?_
    refine Sc.seq ?_
    refine Sc.region ?_
    refine Sl.calm (Cm.move rfl) rfl ?_
    refine Sl.calm (Cm.move rfl) rfl ?_
    refine Sl.calm (Cm.len sl22 rfl) rfl ?_
    refine Sl.fork (Cm.lss rfl rfl) rfl (fun h48 => ?_) (fun h48 => ?_)
    ·
      have hil : i < qs.length := by omega
      obtain ⟨q, hqi⟩ : ∃ q, qs[i]? = some q := ⟨_, List.getElem?_eq_getElem hil⟩
      have hqm := List.mem_of_getElem? hqi
      have hv4 := hva.grow hF4
      have hqn := (hv4.2 q hqm).1
      obtain ⟨hi1, hi2, hi3⟩ := can_ino hq hqi
      have hl63 := hqn.2.1.len63
      refine Sl.nil ?_
      refine At.weak [(3, _), (4, _), (6, _), (7, _), (48, _)] ⟨rfl, rfl, rfl, rfl, rfl, trivial⟩ ?_
      refine At.go ?_
      refine Sc.cond_t rfl ?_
      refine Sc.skip ?_
      refine At.go ?_
      refine Sc.seq ?_
      refine Sc.block ?_
      refine Sc.cut (β := Unit) (fun _u => [(3, .bool true), (4, .slice oa qs.length ca), (6, .int .i64 ((seenN ls i : Nat) : Int)), (7, .int .i64 i)]) (fun _u w => Foot nob w3 w) ?_ ?_
      ·
        refine Sc.seq ?_
        refine Sc.draw 35 (fun H => VwM 10 encN H oa ca qs) [14] [0, 1, 2, 3, 4, 5, 6, 7, 8, 9, 10, 11, 12, 13, 14, 15, 16, 17, 18, 19, 20, 21, 22, 23, 24, 25, 26, 27, 28, 29, 30, 31, 32, 33, 34] mixed (by kernel_rfl) (hv4.1) ?_
        refine Sx.calm rfl rfl (Cm.move rfl) rfl ?_
        refine Sx.fork rfl rfl (Cm.gtr rfl rfl) rfl (fun h52 => ?_) (fun h52 => ?_)
        ·
          obtain ⟨p, hpi⟩ : ∃ p, qs[i - 1]? = some p := ⟨_, List.getElem?_eq_getElem (by omega)⟩
          have hpm := List.mem_of_getElem? hpi
          have hpn := (hv4.2 p hpm).1
          have hlt := can_lt (chk_twice hz) hq (show i - 1 < i by omega) hpi hqi
          refine Sx.calm rfl rfl (Cm.move rfl) rfl ?_
          refine Sx.want rfl rfl rfl rfl (Cm.move rfl) rfl ?_
          refine Sx.want rfl rfl rfl rfl (Cm.move rfl) rfl ?_
          refine Sx.want rfl rfl rfl rfl (Cm.sub64 rfl rfl (by omega)) rfl ?_
          refine Sx.want rfl rfl rfl rfl (Cm.indexAddr sl22 rfl rfl hv4.1.non (by omega)) rfl ?_
          refine Sx.want rfl rfl rfl rfl (Cm.field fld34_0 rfl) rfl ?_
          refine Sx.want rfl rfl rfl rfl (Cm.load sca28 rfl (fun H hH => hH.rowZ (i - 1) (by omega) hpi 0 _ rfl)) rfl ?_
          refine Sx.want rfl rfl rfl rfl (Cm.move rfl) rfl ?_
          refine Sx.want rfl rfl rfl rfl (Cm.move rfl) rfl ?_
          refine Sx.want rfl rfl rfl rfl (Cm.indexAddr sl22 rfl rfl hv4.1.non (by omega)) rfl ?_
          refine Sx.want rfl rfl rfl rfl (Cm.field fld34_0 rfl) rfl ?_
          refine Sx.want rfl rfl rfl rfl (Cm.load sca28 rfl (fun H hH => hH.rowZ i rfl hqi 0 _ rfl)) rfl ?_
          refine Sx.eff rfl rfl (Sl.callWant rfl rfl fn25 rfl ((by show Calls _ _ [Value.slice p.1.names.a p.1.names.n p.1.names.c, Value.slice q.1.names.a q.1.names.n q.1.names.c].toArray _ _; rw [hpn.1, hqn.1]; exact rless_ok _ _ _ _ p.2.names q.2.names _ hpn.2.1 hqn.2.1)) rfl ?_)
          rintro _ w5 ⟨rfl, hf5⟩
          rw [hlt]
          have hF5 : Foot nob w3 w5 := (hF4.draws 1).trans hf5
          refine Sx.on (by exact (hva.grow hF5).1) ?_
          refine Sx.want rfl rfl rfl rfl (Cm.not rfl) rfl ?_
          refine Sx.calm rfl rfl (Cm.pick_t rfl rfl) rfl ?_
          refine Sx.calm rfl rfl (Cm.move rfl) rfl ?_
          refine Sx.want rfl rfl rfl rfl (Cm.move rfl) rfl ?_
          refine Sx.want rfl rfl rfl rfl (Cm.move rfl) rfl ?_
          refine Sx.want rfl rfl rfl rfl (Cm.indexAddr sl22 rfl rfl hv4.1.non (by omega)) rfl ?_
          refine Sx.want rfl rfl rfl rfl (Cm.field fld34_1 rfl) rfl ?_
          refine Sx.want rfl rfl rfl rfl (Cm.load sca3 rfl (fun H hH => hH.rowZ i rfl hqi 1 _ rfl)) rfl ?_
          refine Sx.want rfl rfl rfl rfl (Cm.no (Cm.lss rfl rfl) (by omega)) rfl ?_
          refine Sx.calm rfl rfl (Cm.pick_f rfl rfl) rfl ?_
          refine Sx.calm rfl rfl (Cm.move rfl) rfl ?_
          refine Sx.want rfl rfl rfl rfl (Cm.move rfl) rfl ?_
          refine Sx.want rfl rfl rfl rfl (Cm.move rfl) rfl ?_
          refine Sx.want rfl rfl rfl rfl (Cm.indexAddr sl22 rfl rfl hv4.1.non (by omega)) rfl ?_
          refine Sx.want rfl rfl rfl rfl (Cm.field fld34_1 rfl) rfl ?_
          refine Sx.want rfl rfl rfl rfl (Cm.load sca3 rfl (fun H hH => hH.rowZ i rfl hqi 1 _ rfl)) rfl ?_
          refine Sx.want rfl rfl rfl rfl (Cm.move rfl) rfl ?_
          refine Sx.want rfl rfl rfl rfl (Cm.add64 rfl rfl (by have h9 : (seenN ls i : Int) ≤ 60 := seenN_le hfl i; omega)) rfl ?_
          refine Sx.want rfl rfl rfl rfl (Cm.no (Cm.gtr rfl rfl) (by omega)) rfl ?_
          refine Sx.calm rfl rfl (Cm.pick_f rfl rfl) rfl ?_
          refine Sx.nil ?_
          refine At.weak [(3, _), (4, _), (6, _), (7, _), (48, _), (85, _)] ⟨rfl, rfl, rfl, rfl, rfl, rfl, trivial⟩ ?_
          refine At.go ?_
          refine Sc.cond_f rfl ?_
          refine Sc.skip ?_
          first
            | exact At.cut () ⟨rfl, rfl, rfl, rfl, trivial⟩ hF5
            | exact At.cut () ⟨rfl, rfl, rfl, rfl, trivial⟩ (hF4.draws 1)
        ·
          refine Sx.calm rfl rfl (Cm.move rfl) rfl ?_
          refine Sx.skip rfl rfl rfl rfl rfl rfl ?_
          refine Sx.skip rfl rfl rfl rfl rfl rfl ?_
          refine Sx.skip rfl rfl rfl rfl rfl rfl ?_
          refine Sx.skip rfl rfl rfl rfl rfl rfl ?_
          refine Sx.skip rfl rfl rfl rfl rfl rfl ?_
          refine Sx.skip rfl rfl rfl rfl rfl rfl ?_
          refine Sx.skip rfl rfl rfl rfl rfl rfl ?_
          refine Sx.skip rfl rfl rfl rfl rfl rfl ?_
          refine Sx.skip rfl rfl rfl rfl rfl rfl ?_
          refine Sx.skip rfl rfl rfl rfl rfl rfl ?_
          refine Sx.skip rfl rfl rfl rfl rfl rfl ?_
          refine Sx.eff rfl rfl (Sl.skip rfl rfl rfl rfl ?_)
          refine Sx.on (by exact hv4.1) ?_
          refine Sx.skip rfl rfl rfl rfl rfl rfl ?_
          refine Sx.calm rfl rfl (Cm.pick_f rfl rfl) rfl ?_
          refine Sx.calm rfl rfl (Cm.move rfl) rfl ?_
          refine Sx.want rfl rfl rfl rfl (Cm.move rfl) rfl ?_
          refine Sx.want rfl rfl rfl rfl (Cm.move rfl) rfl ?_
          refine Sx.want rfl rfl rfl rfl (Cm.indexAddr sl22 rfl rfl hv4.1.non (by omega)) rfl ?_
          refine Sx.want rfl rfl rfl rfl (Cm.field fld34_1 rfl) rfl ?_
          refine Sx.want rfl rfl rfl rfl (Cm.load sca3 rfl (fun H hH => hH.rowZ i rfl hqi 1 _ rfl)) rfl ?_
          refine Sx.want rfl rfl rfl rfl (Cm.no (Cm.lss rfl rfl) (by omega)) rfl ?_
          refine Sx.calm rfl rfl (Cm.pick_f rfl rfl) rfl ?_
          refine Sx.calm rfl rfl (Cm.move rfl) rfl ?_
          refine Sx.want rfl rfl rfl rfl (Cm.move rfl) rfl ?_
          refine Sx.want rfl rfl rfl rfl (Cm.move rfl) rfl ?_
          refine Sx.want rfl rfl rfl rfl (Cm.indexAddr sl22 rfl rfl hv4.1.non (by omega)) rfl ?_
          refine Sx.want rfl rfl rfl rfl (Cm.field fld34_1 rfl) rfl ?_
          refine Sx.want rfl rfl rfl rfl (Cm.load sca3 rfl (fun H hH => hH.rowZ i rfl hqi 1 _ rfl)) rfl ?_
          refine Sx.want rfl rfl rfl rfl (Cm.move rfl) rfl ?_
          refine Sx.want rfl rfl rfl rfl (Cm.add64 rfl rfl (by have h9 : (seenN ls i : Int) ≤ 60 := seenN_le hfl i; omega)) rfl ?_
          refine Sx.want rfl rfl rfl rfl (Cm.no (Cm.gtr rfl rfl) (by omega)) rfl ?_
          refine Sx.calm rfl rfl (Cm.pick_f rfl rfl) rfl ?_
          refine Sx.nil ?_
          refine At.weak [(3, _), (4, _), (6, _), (7, _), (48, _), (85, _)] ⟨rfl, rfl, rfl, rfl, rfl, rfl, trivial⟩ ?_
          refine At.go ?_
          refine Sc.cond_f rfl ?_
          refine Sc.skip ?_
          first
            | exact At.cut () ⟨rfl, rfl, rfl, rfl, trivial⟩ hF5
            | exact At.cut () ⟨rfl, rfl, rfl, rfl, trivial⟩ (hF4.draws 1)
      ·
        rintro _ w6 hF6
        refine Sc.seq ?_
        refine Sc.region ?_
        refine Sl.calm (Cm.move rfl) rfl ?_
        refine Sl.calm (Cm.move rfl) rfl ?_
        refine Sl.calm (Cm.move rfl) rfl ?_
        refine Sl.calm (Cm.indexAddr sl22 rfl rfl hv4.1.non (by omega)) rfl ?_
        refine Sl.calm (Cm.field fld34_1 rfl) rfl ?_
        refine Sl.calm (Cm.ld sca3 rfl ((hva.grow hF6).1.rowZ i rfl hqi 1 _ rfl)) rfl ?_
        refine Sl.calm (Cm.ofEq (u := .int .i64 ((seenN ls (i + 1) : Nat) : Int)) (Cm.max2 rfl rfl) (by rw [hi3])) rfl ?_
        refine Sl.calm (Cm.assign rfl) rfl ?_
        refine Sl.nil ?_
        refine At.weak [(3, _), (4, _), (6, _), (7, _)] ⟨rfl, rfl, rfl, rfl, trivial⟩ ?_
        refine At.go ?_
        refine Sc.seq ?_
        refine Sc.region ?_
        refine Sl.calm (Cm.move rfl) rfl ?_
        refine Sl.calm (Cm.move rfl) rfl ?_
        refine Sl.calm (Cm.indexAddr sl22 rfl rfl hv4.1.non (by omega)) rfl ?_
        refine Sl.calm (Cm.field fld34_0 rfl) rfl ?_
        refine Sl.calm (Cm.ld sca28 rfl ((hva.grow hF6).1.rowZ i rfl hqi 0 _ rfl)) rfl ?_
        refine Sl.calm (Cm.len sl28 rfl) rfl ?_
        rw [hqn.1]
        refine Sl.calm (Cm.eql rfl rfl) rfl ?_
        refine Sl.calm (Cm.assign rfl) rfl ?_
        refine Sl.nil ?_
        refine At.weak [(3, _), (4, _), (6, _), (7, _), (8, _)] ⟨rfl, rfl, rfl, rfl, rfl, trivial⟩ ?_
        refine At.go ?_
        refine Sc.seq ?_
        refine Sc.seq ?_
        refine Sc.region ?_
        refine Sl.calm (Cm.assign rfl) rfl ?_
        refine Sl.nil ?_
        refine At.go ?_
        refine Sc.block ?_
        refine Sc.loop (β := Nat × Bool) (fun ⟨k, ab⟩ => [(3, .bool true), (4, .slice oa qs.length ca), (6, .int .i64 ((seenN ls (i + 1) : Nat) : Int)), (7, .int .i64 i), (8, .bool ab), (9, .int .i64 k)]) (fun ⟨k, ab⟩ w => k ≤ i ∧ (ab = true ↔ upA qs q k) ∧ Foot nob w3 w) (fun ⟨k, ab⟩ => i - k) ⟨0, decide ((q.2.names.length : Int) = 0)⟩ ⟨rfl, rfl, rfl, rfl, rfl, rfl, trivial⟩ ⟨Nat.zero_le _, ⟨fun h => .inl (List.length_eq_zero_iff.1 (by have := of_decide_eq_true h; omega)), fun h => by rcases h with h | ⟨j, _, hj, _⟩; rw [h]; rfl; omega⟩, hF6⟩ ?_
        rintro ⟨k, ab⟩ w7 ⟨hk, hab, hF7⟩
        refine Sc.seq ?_
        refine Sc.seq ?_
        refine Sc.region ?_
        refine Sl.calm (Cm.move rfl) rfl ?_
        refine Sl.calm (Cm.move rfl) rfl ?_
        refine Sl.fork (Cm.lss rfl rfl) rfl (fun h102 => ?_) (fun h102 => ?_)
        ·
          have hki : k < i := by omega
          obtain ⟨r, hr⟩ : ∃ r, qs[k]? = some r := ⟨_, List.getElem?_eq_getElem (by omega)⟩
          have hrm := List.mem_of_getElem? hr
          have hv7 := hva.grow hF7
          have hqn7 := (hv7.2 q hqm).1
          have hrn7 := (hv7.2 r hrm).1
          refine Sl.nil ?_
          refine At.weak [(3, _), (4, _), (6, _), (7, _), (8, _), (9, _), (102, _)] ⟨rfl, rfl, rfl, rfl, rfl, rfl, rfl, trivial⟩ ?_
          refine At.go ?_
          refine Sc.cond_t rfl ?_
          refine Sc.skip ?_
          refine At.go ?_
          refine Sc.seq ?_
          refine Sc.block ?_
          refine Sc.seq ?_
          refine Sc.region ?_
          refine Sl.calm (Cm.move rfl) rfl ?_
          refine Sl.calm (Cm.move rfl) rfl ?_
          refine Sl.calm (Cm.indexAddr sl22 rfl rfl hv7.1.non (by omega)) rfl ?_
          refine Sl.calm (Cm.field fld34_0 rfl) rfl ?_
          refine Sl.calm (Cm.ld sca28 rfl (hv7.1.rowZ i rfl hqi 0 _ rfl)) rfl ?_
          refine Sl.calm (Cm.len sl28 rfl) rfl ?_
          rw [hqn7.1]
          refine Sl.fork (Cm.gtr rfl rfl) rfl (fun h111 => ?_) (fun h111 => ?_)
          ·
            refine Sl.nil ?_
            refine At.weak [(3, _), (4, _), (6, _), (7, _), (8, _), (9, _), (102, _), (111, _)] ⟨rfl, rfl, rfl, rfl, rfl, rfl, rfl, rfl, trivial⟩ ?_
            refine At.go ?_
            refine Sc.cond_t rfl ?_
            refine Sc.seq ?_
            refine Sc.draw 20 (fun H => VwM 10 encN H oa ca qs) [18] [0, 1, 2, 3, 4, 5, 6, 7, 8, 9, 10, 11, 12, 13, 14, 15, 16, 17, 18, 19] mixed (by kernel_rfl) (hv7.1) ?_
            refine Sx.calm rfl rfl (Cm.move rfl) rfl ?_
            refine Sx.calm rfl rfl (Cm.move rfl) rfl ?_
            refine Sx.calm rfl rfl (Cm.indexAddr sl22 rfl rfl hv7.1.non (by omega)) rfl ?_
            refine Sx.calm rfl rfl (Cm.field fld34_0 rfl) rfl ?_
            refine Sx.calm rfl rfl (Cm.load sca28 rfl (fun H hH => hH.rowZ k rfl hr 0 _ rfl)) rfl ?_
            refine Sx.calm rfl rfl (Cm.move rfl) rfl ?_
            refine Sx.calm rfl rfl (Cm.move rfl) rfl ?_
            refine Sx.calm rfl rfl (Cm.indexAddr sl22 rfl rfl hv7.1.non (by omega)) rfl ?_
            refine Sx.calm rfl rfl (Cm.field fld34_0 rfl) rfl ?_
            refine Sx.calm rfl rfl (Cm.load sca28 rfl (fun H hH => hH.rowZ i rfl hqi 0 _ rfl)) rfl ?_
            refine Sx.calm rfl rfl (Cm.move rfl) rfl ?_
            refine Sx.calm rfl rfl (Cm.move rfl) rfl ?_
            refine Sx.calm rfl rfl (Cm.indexAddr sl22 rfl rfl hv7.1.non (by omega)) rfl ?_
            refine Sx.calm rfl rfl (Cm.field fld34_0 rfl) rfl ?_
            refine Sx.calm rfl rfl (Cm.load sca28 rfl (fun H hH => hH.rowZ i rfl hqi 0 _ rfl)) rfl ?_
            refine Sx.calm rfl rfl (Cm.len sl28 rfl) rfl ?_
            rw [hqn7.1]
            refine Sx.calm rfl rfl (Cm.sub64 rfl rfl (by omega)) rfl ?_
            refine Sx.calm rfl rfl (Cm.ofEq (u := .slice q.1.names.a q.2.names.dropLast.length q.1.names.c) (Cm.sliceH sl28 rfl rfl (by have := hqn7.2.1.le; omega)) (by rw [cutAo_zero, List.length_dropLast]; congr 1; omega)) rfl ?_
            refine Sx.eff rfl rfl (Sl.call fn26 rfl ((by show Calls _ _ [Value.slice r.1.names.a r.1.names.n r.1.names.c, _].toArray _ _; rw [hrn7.1]; exact rsame_ok r.1.names.a q.1.names.a r.1.names.c q.1.names.c r.2.names q.2.names.dropLast _ hrn7.2.1 (by rw [drop_take]; exact hqn7.2.1.take _))) rfl ?_)
            rintro _ w8 ⟨rfl, hf8⟩
            have hF8 : Foot nob w3 w8 := (hF7.draws 1).trans hf8
            refine Sx.on (by exact (hva.grow hF8).1) ?_
            by_cases h130 : r.2.names = q.2.names.dropLast
            ·
              rw [decide_eq_true h130]
              refine Sx.calm rfl rfl (Cm.assign rfl) rfl ?_
              refine Sx.nil ?_
              refine At.weak [(3, _), (4, _), (6, _), (7, _), (8, _), (9, _), (10, _), (102, _), (111, _)] ⟨rfl, rfl, rfl, rfl, rfl, rfl, rfl, rfl, rfl, trivial⟩ ?_
              refine At.go ?_
              refine Sc.region ?_
              refine Sl.fork (Cm.ofBool (Cm.move rfl)) rfl (fun h131 => ?_) (fun h131 => ?_)
              ·
                refine Sl.calm (Cm.move rfl) rfl ?_
                refine Sl.skip rfl rfl rfl rfl ?_
                refine Sl.skip rfl rfl rfl rfl ?_
                refine Sl.skip rfl rfl rfl rfl ?_
                refine Sl.skip rfl rfl rfl rfl ?_
                refine Sl.skip rfl rfl rfl rfl ?_
                refine Sl.skip rfl rfl rfl rfl ?_
                refine Sl.skip rfl rfl rfl rfl ?_
                refine Sl.skip rfl rfl rfl rfl ?_
                refine Sl.skip rfl rfl rfl rfl ?_
                refine Sl.calm (Cm.pick_t rfl rfl) rfl ?_
                refine Sl.calm (Cm.assign rfl) rfl ?_
                refine Sl.nil ?_
                refine At.block_normal ?_
                refine At.weak [(3, _), (4, _), (6, _), (7, _), (8, _), (9, _), (10, _), (102, _), (111, _)] ⟨rfl, rfl, rfl, rfl, rfl, rfl, rfl, rfl, rfl, trivial⟩ ?_
                refine At.go ?_
                refine Sc.region ?_
                refine Sl.calm (Cm.move rfl) rfl ?_
                refine Sl.calm (Cm.add64 rfl rfl (by omega)) rfl ?_
                refine Sl.calm (Cm.assign rfl) rfl ?_
                refine Sl.nil ?_
                first
                  | exact At.again ⟨k + 1, true⟩ ⟨rfl, rfl, rfl, rfl, rfl, rfl, trivial⟩ ⟨by omega, ⟨fun _ => (upA_succ hr).2 (.inl (hab.1 h131)), fun _ => rfl⟩, hF8⟩ (by show i - (k + 1) < i - k; omega)
                  | exact At.again ⟨k + 1, true⟩ ⟨rfl, rfl, rfl, rfl, rfl, rfl, trivial⟩ ⟨by omega, ⟨fun _ => (upA_succ hr).2 (.inr ⟨h130, h140⟩), fun _ => rfl⟩, hF8⟩ (by show i - (k + 1) < i - k; omega)
                  | exact At.again ⟨k + 1, false⟩ ⟨rfl, rfl, rfl, rfl, rfl, rfl, trivial⟩ ⟨by omega, ⟨fun e => absurd e (by decide), fun e => absurd e (fun e => by rcases (upA_succ hr).1 e with e | e; exact h131 (hab.2 e); first | exact h130 e.1 | exact h140 e.2)⟩, hF8⟩ (by show i - (k + 1) < i - k; omega)
                  | exact At.again ⟨k + 1, ab⟩ ⟨rfl, rfl, rfl, rfl, rfl, rfl, trivial⟩ ⟨by omega, ⟨fun _ => .inl (List.length_eq_zero_iff.1 (by omega)), fun _ => hab.2 (.inl (List.length_eq_zero_iff.1 (by omega)))⟩, hF7⟩ (by show i - (k + 1) < i - k; omega)
              ·
                refine Sl.calm (Cm.move rfl) rfl ?_
                refine Sl.want rfl rfl (Cm.move rfl) rfl ?_
                refine Sl.want rfl rfl (Cm.move rfl) rfl ?_
                refine Sl.want rfl rfl (Cm.move rfl) rfl ?_
                refine Sl.want rfl rfl (Cm.move rfl) rfl ?_
                refine Sl.want rfl rfl (Cm.indexAddr sl22 rfl rfl hv7.1.non (by omega)) rfl ?_
                refine Sl.want rfl rfl (Cm.field fld34_2 rfl) rfl ?_
                refine Sl.want rfl rfl (Cm.ld sca3 rfl ((hva.grow hF8).1.rowZ k rfl hr 2 _ rfl)) rfl ?_
                refine Sl.forkWant rfl rfl (Cm.eql rfl rfl) rfl (fun h140 => ?_) (fun h140 => ?_)
                ·
                  refine Sl.want rfl rfl (Cm.pick_t rfl rfl) rfl ?_
                  refine Sl.calm (Cm.pick_f rfl rfl) rfl ?_
                  refine Sl.calm (Cm.assign rfl) rfl ?_
                  refine Sl.nil ?_
                  refine At.block_normal ?_
                  refine At.weak [(3, _), (4, _), (6, _), (7, _), (8, _), (9, _), (10, _), (102, _), (111, _)] ⟨rfl, rfl, rfl, rfl, rfl, rfl, rfl, rfl, rfl, trivial⟩ ?_
                  refine At.go ?_
                  refine Sc.region ?_
                  refine Sl.calm (Cm.move rfl) rfl ?_
                  refine Sl.calm (Cm.add64 rfl rfl (by omega)) rfl ?_
                  refine Sl.calm (Cm.assign rfl) rfl ?_
                  refine Sl.nil ?_
                  first
                    | exact At.again ⟨k + 1, true⟩ ⟨rfl, rfl, rfl, rfl, rfl, rfl, trivial⟩ ⟨by omega, ⟨fun _ => (upA_succ hr).2 (.inl (hab.1 h131)), fun _ => rfl⟩, hF8⟩ (by show i - (k + 1) < i - k; omega)
                    | exact At.again ⟨k + 1, true⟩ ⟨rfl, rfl, rfl, rfl, rfl, rfl, trivial⟩ ⟨by omega, ⟨fun _ => (upA_succ hr).2 (.inr ⟨h130, h140⟩), fun _ => rfl⟩, hF8⟩ (by show i - (k + 1) < i - k; omega)
                    | exact At.again ⟨k + 1, false⟩ ⟨rfl, rfl, rfl, rfl, rfl, rfl, trivial⟩ ⟨by omega, ⟨fun e => absurd e (by decide), fun e => absurd e (fun e => by rcases (upA_succ hr).1 e with e | e; exact h131 (hab.2 e); first | exact h130 e.1 | exact h140 e.2)⟩, hF8⟩ (by show i - (k + 1) < i - k; omega)
                    | exact At.again ⟨k + 1, ab⟩ ⟨rfl, rfl, rfl, rfl, rfl, rfl, trivial⟩ ⟨by omega, ⟨fun _ => .inl (List.length_eq_zero_iff.1 (by omega)), fun _ => hab.2 (.inl (List.length_eq_zero_iff.1 (by omega)))⟩, hF7⟩ (by show i - (k + 1) < i - k; omega)
                ·
                  refine Sl.want rfl rfl (Cm.pick_t rfl rfl) rfl ?_
                  refine Sl.calm (Cm.pick_f rfl rfl) rfl ?_
                  refine Sl.calm (Cm.assign rfl) rfl ?_
                  refine Sl.nil ?_
                  refine At.block_normal ?_
                  refine At.weak [(3, _), (4, _), (6, _), (7, _), (8, _), (9, _), (10, _), (102, _), (111, _)] ⟨rfl, rfl, rfl, rfl, rfl, rfl, rfl, rfl, rfl, trivial⟩ ?_
                  refine At.go ?_
                  refine Sc.region ?_
                  refine Sl.calm (Cm.move rfl) rfl ?_
                  refine Sl.calm (Cm.add64 rfl rfl (by omega)) rfl ?_
                  refine Sl.calm (Cm.assign rfl) rfl ?_
                  refine Sl.nil ?_
                  first
                    | exact At.again ⟨k + 1, true⟩ ⟨rfl, rfl, rfl, rfl, rfl, rfl, trivial⟩ ⟨by omega, ⟨fun _ => (upA_succ hr).2 (.inl (hab.1 h131)), fun _ => rfl⟩, hF8⟩ (by show i - (k + 1) < i - k; omega)
                    | exact At.again ⟨k + 1, true⟩ ⟨rfl, rfl, rfl, rfl, rfl, rfl, trivial⟩ ⟨by omega, ⟨fun _ => (upA_succ hr).2 (.inr ⟨h130, h140⟩), fun _ => rfl⟩, hF8⟩ (by show i - (k + 1) < i - k; omega)
                    | exact At.again ⟨k + 1, false⟩ ⟨rfl, rfl, rfl, rfl, rfl, rfl, trivial⟩ ⟨by omega, ⟨fun e => absurd e (by decide), fun e => absurd e (fun e => by rcases (upA_succ hr).1 e with e | e; exact h131 (hab.2 e); first | exact h130 e.1 | exact h140 e.2)⟩, hF8⟩ (by show i - (k + 1) < i - k; omega)
                    | exact At.again ⟨k + 1, ab⟩ ⟨rfl, rfl, rfl, rfl, rfl, rfl, trivial⟩ ⟨by omega, ⟨fun _ => .inl (List.length_eq_zero_iff.1 (by omega)), fun _ => hab.2 (.inl (List.length_eq_zero_iff.1 (by omega)))⟩, hF7⟩ (by show i - (k + 1) < i - k; omega)
            ·
              rw [decide_eq_false h130]
              refine Sx.calm rfl rfl (Cm.assign rfl) rfl ?_
              refine Sx.nil ?_
              refine At.weak [(3, _), (4, _), (6, _), (7, _), (8, _), (9, _), (10, _), (102, _), (111, _)] ⟨rfl, rfl, rfl, rfl, rfl, rfl, rfl, rfl, rfl, trivial⟩ ?_
              refine At.go ?_
              refine Sc.region ?_
              refine Sl.fork (Cm.ofBool (Cm.move rfl)) rfl (fun h131 => ?_) (fun h131 => ?_)
              ·
                refine Sl.calm (Cm.move rfl) rfl ?_
                refine Sl.skip rfl rfl rfl rfl ?_
                refine Sl.skip rfl rfl rfl rfl ?_
                refine Sl.skip rfl rfl rfl rfl ?_
                refine Sl.skip rfl rfl rfl rfl ?_
                refine Sl.skip rfl rfl rfl rfl ?_
                refine Sl.skip rfl rfl rfl rfl ?_
                refine Sl.skip rfl rfl rfl rfl ?_
                refine Sl.skip rfl rfl rfl rfl ?_
                refine Sl.skip rfl rfl rfl rfl ?_
                refine Sl.calm (Cm.pick_t rfl rfl) rfl ?_
                refine Sl.calm (Cm.assign rfl) rfl ?_
                refine Sl.nil ?_
                refine At.block_normal ?_
                refine At.weak [(3, _), (4, _), (6, _), (7, _), (8, _), (9, _), (10, _), (102, _), (111, _)] ⟨rfl, rfl, rfl, rfl, rfl, rfl, rfl, rfl, rfl, trivial⟩ ?_
                refine At.go ?_
                refine Sc.region ?_
                refine Sl.calm (Cm.move rfl) rfl ?_
                refine Sl.calm (Cm.add64 rfl rfl (by omega)) rfl ?_
                refine Sl.calm (Cm.assign rfl) rfl ?_
                refine Sl.nil ?_
                first
                  | exact At.again ⟨k + 1, true⟩ ⟨rfl, rfl, rfl, rfl, rfl, rfl, trivial⟩ ⟨by omega, ⟨fun _ => (upA_succ hr).2 (.inl (hab.1 h131)), fun _ => rfl⟩, hF8⟩ (by show i - (k + 1) < i - k; omega)
                  | exact At.again ⟨k + 1, true⟩ ⟨rfl, rfl, rfl, rfl, rfl, rfl, trivial⟩ ⟨by omega, ⟨fun _ => (upA_succ hr).2 (.inr ⟨h130, h140⟩), fun _ => rfl⟩, hF8⟩ (by show i - (k + 1) < i - k; omega)
                  | exact At.again ⟨k + 1, false⟩ ⟨rfl, rfl, rfl, rfl, rfl, rfl, trivial⟩ ⟨by omega, ⟨fun e => absurd e (by decide), fun e => absurd e (fun e => by rcases (upA_succ hr).1 e with e | e; exact h131 (hab.2 e); first | exact h130 e.1 | exact h140 e.2)⟩, hF8⟩ (by show i - (k + 1) < i - k; omega)
                  | exact At.again ⟨k + 1, ab⟩ ⟨rfl, rfl, rfl, rfl, rfl, rfl, trivial⟩ ⟨by omega, ⟨fun _ => .inl (List.length_eq_zero_iff.1 (by omega)), fun _ => hab.2 (.inl (List.length_eq_zero_iff.1 (by omega)))⟩, hF7⟩ (by show i - (k + 1) < i - k; omega)
              ·
                refine Sl.calm (Cm.move rfl) rfl ?_
                refine Sl.want rfl rfl (Cm.move rfl) rfl ?_
                refine Sl.want rfl rfl (Cm.move rfl) rfl ?_
                refine Sl.skip rfl rfl rfl rfl ?_
                refine Sl.skip rfl rfl rfl rfl ?_
                refine Sl.skip rfl rfl rfl rfl ?_
                refine Sl.skip rfl rfl rfl rfl ?_
                refine Sl.skip rfl rfl rfl rfl ?_
                refine Sl.skip rfl rfl rfl rfl ?_
                refine Sl.want rfl rfl (Cm.pick_f rfl rfl) rfl ?_
                refine Sl.calm (Cm.pick_f rfl rfl) rfl ?_
                refine Sl.calm (Cm.assign rfl) rfl ?_
                refine Sl.nil ?_
                refine At.block_normal ?_
                refine At.weak [(3, _), (4, _), (6, _), (7, _), (8, _), (9, _), (10, _), (102, _), (111, _)] ⟨rfl, rfl, rfl, rfl, rfl, rfl, rfl, rfl, rfl, trivial⟩ ?_
                refine At.go ?_
                refine Sc.region ?_
                refine Sl.calm (Cm.move rfl) rfl ?_
                refine Sl.calm (Cm.add64 rfl rfl (by omega)) rfl ?_
                refine Sl.calm (Cm.assign rfl) rfl ?_
                refine Sl.nil ?_
                first
                  | exact At.again ⟨k + 1, true⟩ ⟨rfl, rfl, rfl, rfl, rfl, rfl, trivial⟩ ⟨by omega, ⟨fun _ => (upA_succ hr).2 (.inl (hab.1 h131)), fun _ => rfl⟩, hF8⟩ (by show i - (k + 1) < i - k; omega)
                  | exact At.again ⟨k + 1, true⟩ ⟨rfl, rfl, rfl, rfl, rfl, rfl, trivial⟩ ⟨by omega, ⟨fun _ => (upA_succ hr).2 (.inr ⟨h130, h140⟩), fun _ => rfl⟩, hF8⟩ (by show i - (k + 1) < i - k; omega)
                  | exact At.again ⟨k + 1, false⟩ ⟨rfl, rfl, rfl, rfl, rfl, rfl, trivial⟩ ⟨by omega, ⟨fun e => absurd e (by decide), fun e => absurd e (fun e => by rcases (upA_succ hr).1 e with e | e; exact h131 (hab.2 e); first | exact h130 e.1 | exact h140 e.2)⟩, hF8⟩ (by show i - (k + 1) < i - k; omega)
                  | exact At.again ⟨k + 1, ab⟩ ⟨rfl, rfl, rfl, rfl, rfl, rfl, trivial⟩ ⟨by omega, ⟨fun _ => .inl (List.length_eq_zero_iff.1 (by omega)), fun _ => hab.2 (.inl (List.length_eq_zero_iff.1 (by omega)))⟩, hF7⟩ (by show i - (k + 1) < i - k; omega)
          ·
            refine Sl.nil ?_
            refine At.weak [(3, _), (4, _), (6, _), (7, _), (8, _), (9, _), (102, _), (111, _)] ⟨rfl, rfl, rfl, rfl, rfl, rfl, rfl, rfl, trivial⟩ ?_
            refine At.go ?_
            refine Sc.cond_f rfl ?_
            refine Sc.skip ?_
            refine At.block_normal ?_
            refine At.go ?_
            refine Sc.region ?_
            refine Sl.calm (Cm.move rfl) rfl ?_
            refine Sl.calm (Cm.add64 rfl rfl (by omega)) rfl ?_
            refine Sl.calm (Cm.assign rfl) rfl ?_
            refine Sl.nil ?_
            first
              | exact At.again ⟨k + 1, true⟩ ⟨rfl, rfl, rfl, rfl, rfl, rfl, trivial⟩ ⟨by omega, ⟨fun _ => (upA_succ hr).2 (.inl (hab.1 h131)), fun _ => rfl⟩, hF8⟩ (by show i - (k + 1) < i - k; omega)
              | exact At.again ⟨k + 1, true⟩ ⟨rfl, rfl, rfl, rfl, rfl, rfl, trivial⟩ ⟨by omega, ⟨fun _ => (upA_succ hr).2 (.inr ⟨h130, h140⟩), fun _ => rfl⟩, hF8⟩ (by show i - (k + 1) < i - k; omega)
              | exact At.again ⟨k + 1, false⟩ ⟨rfl, rfl, rfl, rfl, rfl, rfl, trivial⟩ ⟨by omega, ⟨fun e => absurd e (by decide), fun e => absurd e (fun e => by rcases (upA_succ hr).1 e with e | e; exact h131 (hab.2 e); first | exact h130 e.1 | exact h140 e.2)⟩, hF8⟩ (by show i - (k + 1) < i - k; omega)
              | exact At.again ⟨k + 1, ab⟩ ⟨rfl, rfl, rfl, rfl, rfl, rfl, trivial⟩ ⟨by omega, ⟨fun _ => .inl (List.length_eq_zero_iff.1 (by omega)), fun _ => hab.2 (.inl (List.length_eq_zero_iff.1 (by omega)))⟩, hF7⟩ (by show i - (k + 1) < i - k; omega)
        ·
          have hke : k = i := by omega
          subst hke
          refine Sl.nil ?_
          refine At.weak [(3, _), (4, _), (6, _), (7, _), (8, _), (9, _), (102, _)] ⟨rfl, rfl, rfl, rfl, rfl, rfl, rfl, trivial⟩ ?_
          refine At.go ?_
          refine Sc.cond_f rfl ?_
          refine Sc.exit ?_
          refine At.then_exit ?_
          refine At.then_exit ?_
          refine At.block_hit ?_
          refine At.go ?_
          refine Sc.seq ?_
          refine Sc.region ?_
          refine Sl.fork (Cm.ofBool (Cm.move rfl)) rfl (fun h143 => ?_) (fun h143 => ?_)
          ·
            refine Sl.calm (Cm.not rfl) rfl ?_
            refine Sl.nil ?_
            refine At.weak [(3, _), (4, _), (6, _), (7, _), (8, _), (9, _), (102, _), (144, _)] ⟨rfl, rfl, rfl, rfl, rfl, rfl, rfl, rfl, trivial⟩ ?_
            refine At.go ?_
            refine Sc.cond_f rfl ?_
            refine Sc.skip ?_
            refine At.block_normal ?_
            refine At.go ?_
            refine Sc.region ?_
            refine Sl.calm (Cm.move rfl) rfl ?_
            refine Sl.calm (Cm.add64 rfl rfl (by omega)) rfl ?_
            refine Sl.calm (Cm.assign rfl) rfl ?_
            refine Sl.nil ?_
            exact At.again (k + 1) ⟨rfl, rfl, rfl, rfl, trivial⟩ ⟨by omega, hF7⟩ (by show qs.length - (k + 1) < qs.length - k; omega)
          ·
            exact absurd (hab.2 (by by_cases hne : q.2.names = []; exact .inl hne; obtain ⟨j, r, hj, hr, h1, h2⟩ := can_up hz hq hqi hne; exact .inr ⟨j, r, hj, hr, h1, h2⟩)) h143
    ·
      refine Sl.nil ?_
      refine At.weak [(3, _), (4, _), (6, _), (7, _), (48, _)] ⟨rfl, rfl, rfl, rfl, rfl, trivial⟩ ?_
      refine At.go ?_
      refine Sc.cond_f rfl ?_
      refine Sc.exit ?_
      refine At.then_exit ?_
      refine At.then_exit ?_
      refine At.block_hit ?_
      refine At.go ?_
      refine Sc.seq ?_
      refine Sc.region ?_
      refine Sl.calm (Cm.move rfl) rfl ?_
      refine Sl.calm (Cm.assign rfl) rfl ?_
      refine Sl.nil ?_
      refine At.weak [(2, _), (3, _), (4, _), (6, _), (7, _), (48, _)] ⟨rfl, rfl, rfl, rfl, rfl, rfl, trivial⟩ ?_
      refine At.go ?_
      refine Sc.ret ?_
      refine At.ret1 rfl rfl ?_
      first
        | exact ⟨_, rfl, rfl, hF3⟩
        | exact ⟨_, rfl, rfl, hF3.trans hF4⟩
end Go.Proofs.Ytpnfjfbfgaiolaa
