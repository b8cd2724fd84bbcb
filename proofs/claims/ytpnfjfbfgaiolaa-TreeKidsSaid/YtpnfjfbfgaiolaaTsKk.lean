/- tree: the law TreeKids. No condition beyond the bounds that each states. -/
import Derived.Test.YtpnfjfbfgaiolaaTrZk
import Derived.Test.YtpnfjfbfgaiolaaTsIk
namespace Go.Proofs.Ytpnfjfbfgaiolaa
open Go Go.RowKit Go.Maps
set_option linter.unusedVariables false

theorem kidQ_drop {l s : List (List UInt8)} : kidQ l s ↔ l ≠ [] ∧ l.dropLast = s := by
  unfold kidQ
  rw [drop_take]
  constructor
  · rintro ⟨h1, h2⟩
    exact ⟨fun e => by rw [e] at h1; simp at h1, by rw [show l.length - 1 = s.length by omega]; exact h2⟩
  · rintro ⟨h1, h2⟩
    have h0 := List.length_pos_iff.2 h1
    have h3 : s.length = l.length - 1 := by rw [← h2, List.length_take]; omega
    exact ⟨by omega, by rw [h3]; exact h2⟩
section
variable {ps qs : List (NdH × Nd)}
theorem can_inj (hz : chk (nds ps) = 0) (hq : nds qs = nds (canP ps)) {i j : Nat} {p q : NdH × Nd} (hp : qs[i]? = some p) (h : qs[j]? = some q) (e : p.2.names = q.2.names) : i = j := by
  rcases Nat.lt_trichotomy i j with g | g | g
  · have := can_lt (chk_twice hz) hq g hp h; rw [e, lessN_irr] at this; cases this
  · exact g
  · have := can_lt (chk_twice hz) hq g h hp; rw [e, lessN_irr] at this; cases this
theorem nm_some (qs : List (NdH × Nd)) {i : Nat} (h : i < qs.length) : ∃ p, qs[i]? = some p ∧ nmG qs i = p.2.names := ⟨_, List.getElem?_eq_getElem h, nmG_at (List.getElem?_eq_getElem h)⟩
theorem can_kids (hz : chk (nds ps) = 0) (hq : nds qs = nds (canP ps)) {s : List (List UInt8)} {ys : List Int} (h : KidsL qs s ys) : ys = kidG qs s qs.length := by
  refine h.uniq ⟨List.Perm.refl _, ?_⟩
  refine pw_srt ?_
  have h1 := kidG_inc (ps := qs) (s := s) qs.length
  refine List.Pairwise.imp_of_mem (fun {a b} ha hb hab => ?_) h1
  obtain ⟨x, rfl, hx, _⟩ := kidG_mem.1 ha
  obtain ⟨y, rfl, hy, _⟩ := kidG_mem.1 hb
  obtain ⟨p, hp, ep⟩ := nm_some qs hx
  obtain ⟨q, hq', eq⟩ := nm_some qs hy
  have hl := can_lt (chk_twice hz) hq (show x < y by omega) hp hq'
  refine .inl ?_
  show cmpL (nmG qs ((x : Int)).toNat) (nmG qs ((y : Int)).toNat) < 0
  rw [Int.toNat_natCast, Int.toNat_natCast, ep, eq]
  unfold lessN at hl
  exact of_decide_eq_true hl
theorem can_nodir (hz : chk (nds ps) = 0) (hq : nds qs = nds (canP ps)) {i : Nat} {p : NdH × Nd} (hp : qs[i]? = some p) (hk : p.2.kind ≠ 1) : kidG qs p.2.names qs.length = [] := by
  apply List.eq_nil_iff_forall_not_mem.2
  intro z h
  obtain ⟨k, rfl, hkl, hkq⟩ := kidG_mem.1 h
  obtain ⟨q, hq', eq⟩ := nm_some qs hkl
  rw [eq] at hkq
  obtain ⟨hne, hd⟩ := kidQ_drop.1 hkq
  obtain ⟨j, r, _, hr, h1, h2⟩ := can_up hz hq hq' hne
  have e := can_inj hz hq hr hp (h1.trans hd)
  subst e; rw [hr] at hp; cases hp; exact hk h2
def cntK (qs : List (NdH × Nd)) (i z : Nat) : Nat := (List.range i).countP (fun k => decide (kidQ (nmG qs z) (nmG qs k)))
theorem cntK_succ (i z : Nat) : cntK qs (i + 1) z = cntK qs i z + if kidQ (nmG qs z) (nmG qs i) then 1 else 0 := by
  unfold cntK
  rw [List.range_succ, List.countP_append]
  by_cases h : kidQ (nmG qs z) (nmG qs i)
  · rw [if_pos h]; simp [h]
  · rw [if_neg h]; simp [h]
theorem cntK_le (i z : Nat) : cntK qs i z ≤ i := by
  have := List.countP_le_length (p := fun k => decide (kidQ (nmG qs z) (nmG qs k))) (l := List.range i)
  rw [List.length_range] at this; exact this
theorem cntK_root {z : Nat} (i : Nat) (h : nmG qs z = []) : cntK qs i z = 0 := by
  unfold cntK
  rw [List.countP_eq_zero]
  intro k _ hk
  have hk := (of_decide_eq_true hk).1
  rw [h] at hk; simp at hk
theorem cntK_one (hz : chk (nds ps) = 0) (hq : nds qs = nds (canP ps)) {z : Nat} {p : NdH × Nd} (hp : qs[z]? = some p) (hne : p.2.names ≠ []) : cntK qs qs.length z = 1 := by
  obtain ⟨j, r, hj, hr, h1, h2⟩ := can_up hz hq hp hne
  have hzl := (List.getElem?_eq_some_iff.1 hp).1
  have e : (List.range qs.length).countP (fun k => decide (kidQ (nmG qs z) (nmG qs k))) = (List.range qs.length).countP (fun k => k == j) := by
    apply List.countP_congr
    intro k hk
    have hk := List.mem_range.1 hk
    obtain ⟨q, hq', eq⟩ := nm_some qs hk
    rw [nmG_at hp, eq]
    simp only [decide_eq_true_eq, beq_iff_eq]
    constructor
    · intro h
      exact can_inj hz hq hq' hr (by rw [h1, (kidQ_drop.1 h).2])
    · intro h
      subst h
      rw [hr] at hq'; cases hq'
      exact kidQ_drop.2 ⟨hne, h1.symm⟩
  unfold cntK
  rw [e]
  have : (List.range qs.length).count j = 1 := by rw [List.Nodup.count List.nodup_range, if_pos (List.mem_range.2 (by omega))]
  exact this
def timI (qs : List (NdH × Nd)) (ts : List Int) (i : Nat) (ys : List Int) : Prop := ts.length = qs.length ∧ ∀ z : Nat, z < qs.length → ts.getD z 0 = (cntK qs i z : Nat) + if (z : Int) ∈ ys then 1 else 0
theorem timI.zero : timI qs (List.replicate qs.length 0) 0 [] := ⟨List.length_replicate, fun z hz => by
  rw [List.getD, List.getElem?_replicate, if_pos hz]; simp [cntK]⟩
theorem timI.step {ts ys : List Int} {i j : Nat} {y : Int} (h : timI qs ts i (ys.take j)) (hy : ys[j]? = some y) (hj : 0 ≤ y ∧ y < qs.length) (hn : ys.Pairwise (· < ·)) : timI qs (ts.set y.toNat (ts.getD y.toNat 0 + 1)) i (ys.take (j + 1)) := by
  have hnm : y ∉ ys.take j := fun g => by
    obtain ⟨k, hk⟩ := List.getElem?_of_mem g
    rw [List.getElem?_take] at hk
    split at hk
    · have e1 := List.getElem?_eq_some_iff.1 hk
      have e2 := List.getElem?_eq_some_iff.1 hy
      have := List.pairwise_iff_getElem.1 hn k j e1.1 e2.1 (by assumption)
      rw [e1.2, e2.2] at this; omega
    · cases hk
  refine ⟨by rw [List.length_set]; exact h.1, fun z hz => ?_⟩
  rw [gd_set (by rw [h.1]; omega), tkL hy]
  by_cases e : z = y.toNat
  · subst e
    rw [if_pos rfl, h.2 _ hz]
    have e2 : ((y.toNat : Nat) : Int) = y := by omega
    rw [e2, if_neg hnm, if_pos (by simp)]; omega
  · rw [if_neg e, h.2 z hz]
    have : ((z : Int) ∈ ys.take j ++ [y]) ↔ (z : Int) ∈ ys.take j := by
      rw [List.mem_append, List.mem_singleton]
      exact ⟨fun g => g.elim id (fun g => absurd g (by omega)), .inl⟩
    by_cases g : (z : Int) ∈ ys.take j
    · rw [if_pos g, if_pos (this.2 g)]
    · rw [if_neg g, if_neg (fun k => g (this.1 k))]
theorem timI.next {ts : List Int} {i : Nat} (h : timI qs ts i (kidG qs (nmG qs i) qs.length)) : timI qs ts (i + 1) [] := ⟨h.1, fun z hz => by
  rw [h.2 z hz, cntK_succ]
  have : ((z : Int) ∈ kidG qs (nmG qs i) qs.length) ↔ kidQ (nmG qs z) (nmG qs i) := by
    rw [kidG_mem]
    exact ⟨fun ⟨k, e, _, g⟩ => by have : z = k := by omega
                                  subst this; exact g, fun g => ⟨z, rfl, hz, g⟩⟩
  by_cases g : kidQ (nmG qs z) (nmG qs i)
  · rw [if_pos g, if_pos (this.2 g)]; simp
  · rw [if_neg g, if_neg (fun k => g (this.1 k))]; simp⟩
end
variable {D : Nat → Prop}
set_option maxHeartbeats 4000000 in
theorem treeKids_ok (lo : Option Addr) (lc : Nat) (ps : List (NdH × Nd)) (W : World) (hv : NodesV D W.heap lo lc ps) (hw : ∀ p ∈ ps, okN p.2 ∧ smN p.2) :
    Calls Try.prog 9 [.slice lo ps.length lc].toArray W (Ret fun v w' => v = .bool true ∧ Foot nob W w') := by
  have hfl := few_len ps
  refine calls_of_sc 130 [(0, _)] Try.func9 rfl rfl rfl (enter_slots ⟨rfl, trivial⟩) ?_
  refine Sc.seq ?_
  refine Sc.region ?_
  refine Sl.calm (Cm.assign rfl) rfl ?_
  refine Sl.nil ?_
  refine At.go ?_
  refine Sc.seq ?_
  refine Sc.region ?_
  refine Sl.call fn10 rfl (shown_ok W) rfl ?_
  rintro _ w1 ⟨rfl, hf1⟩
  refine Sl.calm (Cm.assign rfl) rfl ?_
  refine Sl.nil ?_
  refine At.weak [(0, _), (2, _), (3, _)] ⟨rfl, rfl, rfl, trivial⟩ ?_
  refine At.go ?_
  refine Sc.seq ?_
  refine Sc.region ?_
  refine Sl.calm (Cm.move rfl) rfl ?_
  refine Sl.call fn11 rfl (few_ok lo lc ps w1 (hv.grow hf1)) rfl ?_
  rintro _ w2 ⟨o, c, rfl, ho, hfo, hf2, hvf⟩
  obtain ⟨ls, hls⟩ : ∃ ls, ls = fewL ps := ⟨_, rfl⟩
  have hok2 := ok_few hw
  have hsm2 := sm_few hw
  rw [← hls] at hvf hok2 hsm2 hfl ⊢
  refine Sl.call fn22 rfl (canon_ok o c ls w2 hvf hsm2 hok2) rfl ?_
  rintro _ w3 ⟨oa, ca, qs, rfl, ha1, ha2, hva, hfa, hf3⟩
  have hF3 := (hf1.trans hf2).trans hf3
  refine Sl.calm (Cm.move rfl) rfl ?_
  refine Sl.calm (Cm.extract rfl rfl) rfl ?_
  refine Sl.calm (Cm.extract rfl rfl) rfl ?_
  refine Sl.calm (Cm.assign rfl) rfl ?_
  refine Sl.calm (Cm.assign rfl) rfl ?_
  refine Sl.nil ?_
  refine At.weak [(0, _), (2, _), (3, _), (4, _), (5, _)] ⟨rfl, rfl, rfl, rfl, rfl, trivial⟩ ?_
  refine At.go ?_
  refine Sc.seq ?_
  refine Sc.seq ?_
  refine Sc.region ?_
  refine Sl.calm (Cm.move rfl) rfl ?_
  refine Sl.fork (Cm.neq rfl rfl) rfl (fun h20 => ?_) (fun h20 => ?_)
  ·
    have hq0 := ha1 h20
    refine Sl.nil ?_
    refine At.weak [(0, _), (2, _), (3, _), (4, _), (5, _), (20, _)] ⟨rfl, rfl, rfl, rfl, rfl, rfl, trivial⟩ ?_
    refine At.go ?_
    refine Sc.cond_t rfl ?_
    refine Sc.seq ?_
    refine Sc.region ?_
    refine Sl.calm (Cm.move rfl) rfl ?_
    refine Sl.calm (Cm.move rfl) rfl ?_
    refine Sl.want rfl rfl (Cm.move rfl) rfl ?_
    refine Sl.want rfl rfl (Cm.len sl22 rfl) rfl ?_
    refine Sl.want rfl rfl (Cm.yes (Cm.eql rfl rfl) (by rw [hq0]; rfl)) rfl ?_
    refine Sl.calm (Cm.pick_t rfl rfl) rfl ?_
    refine Sl.calm (Cm.assign rfl) rfl ?_
    refine Sl.nil ?_
    refine At.weak [(0, _), (2, _), (3, _), (4, _), (5, _), (20, _)] ⟨rfl, rfl, rfl, rfl, rfl, rfl, trivial⟩ ?_
    refine At.go ?_
    refine Sc.ret ?_
    refine At.then_ret ?_
    refine At.ret1 rfl rfl ?_
    first
      | exact ⟨_, rfl, rfl, hF3⟩
      | exact ⟨_, rfl, rfl, (hF3.trans hF5).trans hF9⟩
  ·
    have hz : chk (nds ls) = 0 := Classical.not_not.1 h20
    have hq := ha2 hz
    have hql := can_len hq
    refine Sl.nil ?_
    refine At.weak [(0, _), (2, _), (3, _), (4, _), (5, _), (20, _)] ⟨rfl, rfl, rfl, rfl, rfl, rfl, trivial⟩ ?_
    refine At.go ?_
    refine Sc.cond_f rfl ?_
    refine Sc.skip ?_
    refine At.go ?_
    refine Sc.seq ?_
    refine Sc.region ?_
    refine Sl.calm (Cm.move rfl) rfl ?_
    refine Sl.calm (Cm.len sl22 rfl) rfl ?_
    refine Sl.make i64 (0 : Int) sl37 z3 rfl rfl rfl (by omega) (by omega) (by omega) (by omega) rfl ?_
    intro w4 ho4 hs4 hf4
    rw [Int.toNat_natCast] at ho4 ⊢
    obtain ⟨ot, hot⟩ : ∃ ot : Option Addr, ot = some ⟨w3.heap.size, 0, none⟩ := ⟨_, rfl⟩
    rw [← hot] at ho4 ⊢
    have hft : Fr w3.heap.size ot := fun a ha => by rw [hot] at ha; cases ha; exact Nat.le_refl _
    refine Sl.calm (Cm.assign rfl) rfl ?_
    refine Sl.nil ?_
    refine At.weak [(0, _), (2, _), (3, _), (4, _), (5, _), (6, _), (20, _)] ⟨rfl, rfl, rfl, rfl, rfl, rfl, rfl, trivial⟩ ?_
    refine At.go ?_
    refine Sc.seq ?_
    refine Sc.seq ?_
    refine Sc.region ?_
    refine Sl.calm (Cm.assign rfl) rfl ?_
    refine Sl.nil ?_
    refine At.go ?_
    refine Sc.block ?_
    refine Sc.loop (β := Nat × List Int) (fun ⟨i, ts⟩ => [(3, .bool true), (4, .slice oa qs.length ca), (6, .slice ot qs.length qs.length), (7, .int .i64 i)]) (fun ⟨i, ts⟩ w => i ≤ qs.length ∧ Own i64 3 w.heap ot qs.length ts ∧ timI qs ts i [] ∧ Foot nob w3 w) (fun ⟨i, ts⟩ => qs.length - i) ⟨0, List.replicate qs.length 0⟩ ⟨rfl, rfl, rfl, rfl, trivial⟩ ⟨Nat.zero_le _, ho4, timI.zero, hf4⟩ ?_
    rintro ⟨i, ts⟩ w5 ⟨hi, ho5, hti, hF5⟩
    refine Sc.seq ?_
    refine Sc.seq ?_
    refine Sc.region ?_
    refine Sl.calm (Cm.move rfl) rfl ?_
    refine Sl.calm (Cm.move rfl) rfl ?_
    refine Sl.calm (Cm.len sl22 rfl) rfl ?_
    refine Sl.fork (Cm.lss rfl rfl) rfl (fun h33 => ?_) (fun h33 => ?_)
    ·
      have hil : i < qs.length := by omega
      obtain ⟨q, hqi⟩ : ∃ q, qs[i]? = some q := ⟨_, List.getElem?_eq_getElem hil⟩
      have hqm := List.mem_of_getElem? hqi
      have hv5 := hva.grow hF5
      have hqn := (hv5.2 q hqm).1
      have hnm := nmG_at hqi
      refine Sl.nil ?_
      refine At.weak [(3, _), (4, _), (6, _), (7, _), (33, _)] ⟨rfl, rfl, rfl, rfl, rfl, trivial⟩ ?_
      refine At.go ?_
      refine Sc.cond_t rfl ?_
      refine Sc.skip ?_
      refine At.go ?_
      refine Sc.seq ?_
      refine Sc.block ?_
      refine Sc.seq ?_
      refine Sc.region ?_
      refine Sl.calm (Cm.move rfl) rfl ?_
      refine Sl.calm (Cm.move rfl) rfl ?_
      refine Sl.calm (Cm.move rfl) rfl ?_
      refine Sl.calm (Cm.indexAddr sl22 rfl rfl hv5.1.non (by omega)) rfl ?_
      refine Sl.calm (Cm.field fld34_0 rfl) rfl ?_
      refine Sl.calm (Cm.ofEq (u := .slice q.1.names.a q.2.names.length q.1.names.c) (Cm.ld sca28 rfl (hv5.1.rowZ i rfl hqi 0 _ rfl)) (by rw [← hqn.1]; rfl)) rfl ?_
      refine Sl.call fn16 rfl (kids_ok oa ca qs q.1.names.a q.1.names.c q.2.names w5 hv5 hqn.2.1 (by omega)) rfl ?_
      rintro _ w6 ⟨oy, cy, ys, rfl, hoy, hfy, hky, hf6⟩
      have hye := can_kids hz hq hky
      have hF6 := hF5.trans hf6
      have hv6 := hva.grow hF6
      have ho6 := ho5.grow hf6
      have hyl : ys.length ≤ qs.length := by rw [hye]; exact kidG_len _
      refine Sl.calm (Cm.assign rfl) rfl ?_
      refine Sl.nil ?_
      refine At.weak [(3, _), (4, _), (6, _), (7, _), (8, _), (33, _)] ⟨rfl, rfl, rfl, rfl, rfl, rfl, trivial⟩ ?_
      refine At.go ?_
      refine Sc.seq ?_
      refine Sc.seq ?_
      refine Sc.region ?_
      refine Sl.calm (Cm.move rfl) rfl ?_
      refine Sl.calm (Cm.move rfl) rfl ?_
      refine Sl.calm (Cm.indexAddr sl22 rfl rfl hv6.1.non (by omega)) rfl ?_
      refine Sl.calm (Cm.field fld34_2 rfl) rfl ?_
      refine Sl.calm (Cm.ld sca3 rfl (hv6.1.rowZ i rfl hqi 2 _ rfl)) rfl ?_
      refine Sl.fork (Cm.neq rfl rfl) rfl (fun h48 => ?_) (fun h48 => ?_)
      ·
        refine Sl.calm (Cm.move rfl) rfl ?_
        refine Sl.want rfl rfl (Cm.move rfl) rfl ?_
        refine Sl.want rfl rfl (Cm.len sl37 rfl) rfl ?_
        refine Sl.want rfl rfl (Cm.no (Cm.gtr rfl rfl) (by rw [hye, can_nodir hz hq hqi h48]; decide)) rfl ?_
        refine Sl.calm (Cm.pick_t rfl rfl) rfl ?_
        refine Sl.nil ?_
        refine At.weak [(3, _), (4, _), (6, _), (7, _), (8, _), (33, _), (53, _)] ⟨rfl, rfl, rfl, rfl, rfl, rfl, rfl, trivial⟩ ?_
        refine At.go ?_
        refine Sc.cond_f rfl ?_
        refine Sc.skip ?_
        refine At.go ?_
        refine Sc.seq ?_
        refine Sc.region ?_
        refine Sl.calm (Cm.assign rfl) rfl ?_
        refine Sl.nil ?_
        refine At.go ?_
        refine Sc.block ?_
        refine Sc.loop (β := Nat × List Int) (fun ⟨j, ts⟩ => [(3, .bool true), (4, .slice oa qs.length ca), (6, .slice ot qs.length qs.length), (7, .int .i64 i), (8, .slice oy ys.length cy), (9, .int .i64 j)]) (fun ⟨j, ts⟩ w => j ≤ ys.length ∧ Own i64 3 w.heap ot qs.length ts ∧ timI qs ts i (ys.take j) ∧ Foot (blk ot) w6 w) (fun ⟨j, ts⟩ => ys.length - j) ⟨0, ts⟩ ⟨rfl, rfl, rfl, rfl, rfl, rfl, trivial⟩ ⟨Nat.zero_le _, ho6, hti, Foot.refl _ _⟩ ?_
        rintro ⟨j, ts⟩ w7 ⟨hj, ho7, hti, hF67⟩
        refine Sc.seq ?_
        refine Sc.seq ?_
        refine Sc.region ?_
        refine Sl.calm (Cm.move rfl) rfl ?_
        refine Sl.calm (Cm.move rfl) rfl ?_
        refine Sl.calm (Cm.len sl37 rfl) rfl ?_
        refine Sl.fork (Cm.lss rfl rfl) rfl (fun h57 => ?_) (fun h57 => ?_)
        ·
          have hjl : j < ys.length := by omega
          obtain ⟨y, hyj⟩ : ∃ y, ys[j]? = some y := ⟨_, List.getElem?_eq_getElem hjl⟩
          have hyg : ys.getD j 0 = y := by rw [List.getD, hyj]; rfl
          have hym : 0 ≤ y ∧ y < qs.length := by have := List.mem_of_getElem? hyj; rw [hye] at this; obtain ⟨k, e, hk, _⟩ := kidG_mem.1 this; omega
          have hpw : ys.Pairwise (· < ·) := by rw [hye]; exact kidG_inc _
          have hvy := hoy.vw.keep hF67 (fun a ha ⟨b, hb, e⟩ => by have := ho5.lt b hb; have := hfy a ha; omega)
          have ho7v := ho7.vw
          have htl := hti.1
          refine Sl.nil ?_
          refine At.weak [(3, _), (4, _), (6, _), (7, _), (8, _), (9, _), (57, _)] ⟨rfl, rfl, rfl, rfl, rfl, rfl, rfl, trivial⟩ ?_
          refine At.go ?_
          refine Sc.cond_t rfl ?_
          refine Sc.skip ?_
          refine At.go ?_
          refine Sc.seq ?_
          refine Sc.block ?_
          refine Sc.seq ?_
          refine Sc.seq ?_
          refine Sc.draw 30 (fun H => Vw i64 H oy cy ys) [] [0, 1, 2, 3, 4, 5, 6, 7, 8, 9, 10, 11, 12, 13, 14, 15, 16, 17, 18, 19, 20, 21, 22, 23, 24, 25, 26, 27, 28, 29] mixed (by kernel_rfl) (hvy) ?_
          refine Sx.calm rfl rfl (Cm.move rfl) rfl ?_
          refine Sx.calm rfl rfl (Cm.move rfl) rfl ?_
          refine Sx.calm rfl rfl (Cm.indexAddr1 sl37 rfl rfl hvy.non (by omega)) rfl ?_
          refine Sx.calm rfl rfl (Cm.ofEq (u := .int .i64 y) (Cm.load sca3 rfl (fun H hH => hH.gd 0 hjl)) (by show i64 (ys.getD j 0) = i64 y; rw [hyg])) rfl ?_
          refine Sx.calm rfl rfl (Cm.no (Cm.lss rfl rfl) (by omega)) rfl ?_
          refine Sx.calm rfl rfl (Cm.move rfl) rfl ?_
          refine Sx.want rfl rfl rfl rfl (Cm.move rfl) rfl ?_
          refine Sx.want rfl rfl rfl rfl (Cm.move rfl) rfl ?_
          refine Sx.want rfl rfl rfl rfl (Cm.indexAddr1 sl37 rfl rfl hvy.non (by omega)) rfl ?_
          refine Sx.want rfl rfl rfl rfl (Cm.ofEq (u := .int .i64 y) (Cm.load sca3 rfl (fun H hH => hH.gd 0 hjl)) (by show i64 (ys.getD j 0) = i64 y; rw [hyg])) rfl ?_
          refine Sx.want rfl rfl rfl rfl (Cm.move rfl) rfl ?_
          refine Sx.want rfl rfl rfl rfl (Cm.len sl22 rfl) rfl ?_
          refine Sx.want rfl rfl rfl rfl (Cm.no (Cm.geq rfl rfl) (by omega)) rfl ?_
          refine Sx.calm rfl rfl (Cm.pick_f rfl rfl) rfl ?_
          refine Sx.calm rfl rfl (Cm.move rfl) rfl ?_
          refine Sx.want rfl rfl rfl rfl (Cm.move rfl) rfl ?_
          refine Sx.forkWant rfl rfl rfl rfl (Cm.gtr rfl rfl) rfl (fun h76 => ?_) (fun h76 => ?_)
          ·
            obtain ⟨x, hxj⟩ : ∃ x, ys[j - 1]? = some x := ⟨_, List.getElem?_eq_getElem (by omega)⟩
            have hxg : ys.getD (j - 1) 0 = x := by rw [List.getD, hxj]; rfl
            have hxy : x < y := by have e1 := List.getElem?_eq_some_iff.1 hxj; have e2 := List.getElem?_eq_some_iff.1 hyj; have := List.pairwise_iff_getElem.1 hpw (j - 1) j e1.1 e2.1 (by omega); rw [e1.2, e2.2] at this; exact this
            refine Sx.want rfl rfl rfl rfl (Cm.move rfl) rfl ?_
            refine Sx.want rfl rfl rfl rfl (Cm.move rfl) rfl ?_
            refine Sx.want rfl rfl rfl rfl (Cm.move rfl) rfl ?_
            refine Sx.want rfl rfl rfl rfl (Cm.sub64 rfl rfl (by omega)) rfl ?_
            refine Sx.want rfl rfl rfl rfl (Cm.indexAddr1 sl37 rfl rfl hvy.non (by omega)) rfl ?_
            refine Sx.want rfl rfl rfl rfl (Cm.ofEq (u := .int .i64 x) (Cm.load sca3 rfl (fun H hH => hH.gz 0 (j - 1) (by omega) (by omega))) (by rw [hxg]; rfl)) rfl ?_
            refine Sx.want rfl rfl rfl rfl (Cm.move rfl) rfl ?_
            refine Sx.want rfl rfl rfl rfl (Cm.move rfl) rfl ?_
            refine Sx.want rfl rfl rfl rfl (Cm.indexAddr1 sl37 rfl rfl hvy.non (by omega)) rfl ?_
            refine Sx.want rfl rfl rfl rfl (Cm.ofEq (u := .int .i64 y) (Cm.load sca3 rfl (fun H hH => hH.gd 0 hjl)) (by show i64 (ys.getD j 0) = i64 y; rw [hyg])) rfl ?_
            refine Sx.want rfl rfl rfl rfl (Cm.no (Cm.geq rfl rfl) (by omega)) rfl ?_
            refine Sx.want rfl rfl rfl rfl (Cm.pick_t rfl rfl) rfl ?_
            refine Sx.calm rfl rfl (Cm.pick_f rfl rfl) rfl ?_
            refine Sx.nil ?_
            refine At.weak [(3, _), (4, _), (6, _), (7, _), (8, _), (9, _), (57, _), (89, _)] ⟨rfl, rfl, rfl, rfl, rfl, rfl, rfl, rfl, trivial⟩ ?_
            refine At.go ?_
            refine Sc.cond_f rfl ?_
            refine Sc.skip ?_
            refine At.go ?_
            refine Sc.region ?_
            refine Sl.calm (Cm.move rfl) rfl ?_
            refine Sl.calm (Cm.move rfl) rfl ?_
            refine Sl.calm (Cm.move rfl) rfl ?_
            refine Sl.calm (Cm.indexAddr1 sl37 rfl rfl hvy.non (by omega)) rfl ?_
            refine Sl.calm (Cm.ofEq (u := .int .i64 y) (Cm.ld sca3 rfl ((hvy.grow (Foot.ofDraws 1)).gd 0 hjl)) (by show i64 (ys.getD j 0) = i64 y; rw [hyg])) rfl ?_
            have ho8v := ho7v.grow (Foot.ofDraws 1)
            refine Sl.calm (Cm.indexAddr1 sl37 rfl rfl (fun _ => ho8v.non (by omega)) (by omega)) rfl ?_
            refine Sl.calm (Cm.ofEq (u := .int .i64 (ts.getD y.toNat 0)) (Cm.ld sca3 rfl (ho8v.gz 0 y.toNat (by omega) (by omega))) rfl) rfl ?_
            have hcb := cntK_le (qs := qs) i y.toNat
            have htb := hti.2 y.toNat (by omega)
            have htb2 : 0 ≤ ts.getD y.toNat 0 ∧ ts.getD y.toNat 0 ≤ 1000 := by rw [htb]; split <;> omega
            refine Sl.calm (Cm.add64 rfl rfl (by omega)) rfl ?_
            refine Sl.calm (Cm.indexAddr1 sl37 rfl rfl (fun _ => ho8v.non (by omega)) (by omega)) rfl ?_
            refine Sl.storeRow i64_oneS sca3 (z := y) (u := ts.getD y.toNat 0 + 1) rfl rfl (ho7.grow (Foot.ofDraws 1)) (by omega) ?_
            intro w8 ho8 hs8 hf8
            have hti8 := hti.step hyj hym hpw
            have hF68 : Foot (blk ot) w6 w8 := (hF67.draws 1).trans hf8
            refine Sl.nil ?_
            refine At.block_normal ?_
            refine At.weak [(3, _), (4, _), (6, _), (7, _), (8, _), (9, _), (57, _), (89, _)] ⟨rfl, rfl, rfl, rfl, rfl, rfl, rfl, rfl, trivial⟩ ?_
            refine At.go ?_
            refine Sc.region ?_
            refine Sl.calm (Cm.move rfl) rfl ?_
            refine Sl.calm (Cm.add64 rfl rfl (by omega)) rfl ?_
            refine Sl.calm (Cm.assign rfl) rfl ?_
            refine Sl.nil ?_
            exact At.again ⟨j + 1, ts.set y.toNat (ts.getD y.toNat 0 + 1)⟩ ⟨rfl, rfl, rfl, rfl, rfl, rfl, trivial⟩ ⟨by omega, ho8, hti8, hF68⟩ (by show ys.length - (j + 1) < ys.length - j; omega)
          ·
            refine Sx.want rfl rfl rfl rfl (Cm.move rfl) rfl ?_
            refine Sx.skip rfl rfl rfl rfl rfl rfl ?_
            refine Sx.skip rfl rfl rfl rfl rfl rfl ?_
            refine Sx.skip rfl rfl rfl rfl rfl rfl ?_
            refine Sx.skip rfl rfl rfl rfl rfl rfl ?_
            refine Sx.skip rfl rfl rfl rfl rfl rfl ?_
            refine Sx.skip rfl rfl rfl rfl rfl rfl ?_
            refine Sx.skip rfl rfl rfl rfl rfl rfl ?_
            refine Sx.skip rfl rfl rfl rfl rfl rfl ?_
            refine Sx.skip rfl rfl rfl rfl rfl rfl ?_
            refine Sx.skip rfl rfl rfl rfl rfl rfl ?_
            refine Sx.want rfl rfl rfl rfl (Cm.pick_f rfl rfl) rfl ?_
            refine Sx.calm rfl rfl (Cm.pick_f rfl rfl) rfl ?_
            refine Sx.nil ?_
            refine At.weak [(3, _), (4, _), (6, _), (7, _), (8, _), (9, _), (57, _), (89, _)] ⟨rfl, rfl, rfl, rfl, rfl, rfl, rfl, rfl, trivial⟩ ?_
            refine At.go ?_
            refine Sc.cond_f rfl ?_
            refine Sc.skip ?_
            refine At.go ?_
            refine Sc.region ?_
            refine Sl.calm (Cm.move rfl) rfl ?_
            refine Sl.calm (Cm.move rfl) rfl ?_
            refine Sl.calm (Cm.move rfl) rfl ?_
            refine Sl.calm (Cm.indexAddr1 sl37 rfl rfl hvy.non (by omega)) rfl ?_
            refine Sl.calm (Cm.ofEq (u := .int .i64 y) (Cm.ld sca3 rfl ((hvy.grow (Foot.ofDraws 1)).gd 0 hjl)) (by show i64 (ys.getD j 0) = i64 y; rw [hyg])) rfl ?_
            have ho8v := ho7v.grow (Foot.ofDraws 1)
            refine Sl.calm (Cm.indexAddr1 sl37 rfl rfl (fun _ => ho8v.non (by omega)) (by omega)) rfl ?_
            refine Sl.calm (Cm.ofEq (u := .int .i64 (ts.getD y.toNat 0)) (Cm.ld sca3 rfl (ho8v.gz 0 y.toNat (by omega) (by omega))) rfl) rfl ?_
            have hcb := cntK_le (qs := qs) i y.toNat
            have htb := hti.2 y.toNat (by omega)
            have htb2 : 0 ≤ ts.getD y.toNat 0 ∧ ts.getD y.toNat 0 ≤ 1000 := by rw [htb]; split <;> omega
            refine Sl.calm (Cm.add64 rfl rfl (by omega)) rfl ?_
            refine Sl.calm (Cm.indexAddr1 sl37 rfl rfl (fun _ => ho8v.non (by omega)) (by omega)) rfl ?_
            refine Sl.storeRow i64_oneS sca3 (z := y) (u := ts.getD y.toNat 0 + 1) rfl rfl (ho7.grow (Foot.ofDraws 1)) (by omega) ?_
            intro w8 ho8 hs8 hf8
            have hti8 := hti.step hyj hym hpw
            have hF68 : Foot (blk ot) w6 w8 := (hF67.draws 1).trans hf8
            refine Sl.nil ?_
            refine At.block_normal ?_
            refine At.weak [(3, _), (4, _), (6, _), (7, _), (8, _), (9, _), (57, _), (89, _)] ⟨rfl, rfl, rfl, rfl, rfl, rfl, rfl, rfl, trivial⟩ ?_
            refine At.go ?_
            refine Sc.region ?_
            refine Sl.calm (Cm.move rfl) rfl ?_
            refine Sl.calm (Cm.add64 rfl rfl (by omega)) rfl ?_
            refine Sl.calm (Cm.assign rfl) rfl ?_
            refine Sl.nil ?_
            exact At.again ⟨j + 1, ts.set y.toNat (ts.getD y.toNat 0 + 1)⟩ ⟨rfl, rfl, rfl, rfl, rfl, rfl, trivial⟩ ⟨by omega, ho8, hti8, hF68⟩ (by show ys.length - (j + 1) < ys.length - j; omega)
        ·
          have hje : j = ys.length := by omega
          subst hje
          rw [List.take_length, hye, ← hnm] at hti
          refine Sl.nil ?_
          refine At.weak [(3, _), (4, _), (6, _), (7, _), (8, _), (9, _), (57, _)] ⟨rfl, rfl, rfl, rfl, rfl, rfl, rfl, trivial⟩ ?_
          refine At.go ?_
          refine Sc.cond_f rfl ?_
          refine Sc.exit ?_
          refine At.then_exit ?_
          refine At.then_exit ?_
          refine At.block_hit ?_
          refine At.block_normal ?_
          refine At.go ?_
          refine Sc.region ?_
          refine Sl.calm (Cm.move rfl) rfl ?_
          refine Sl.calm (Cm.add64 rfl rfl (by omega)) rfl ?_
          refine Sl.calm (Cm.assign rfl) rfl ?_
          refine Sl.nil ?_
          exact At.again ⟨i + 1, ts⟩ ⟨rfl, rfl, rfl, rfl, trivial⟩ ⟨by omega, ho7, hti.next, hF6.trans_to hF67 hft.step⟩ (by show qs.length - (i + 1) < qs.length - i; omega)
      ·
        refine Sl.calm (Cm.move rfl) rfl ?_
        refine Sl.skip rfl rfl rfl rfl ?_
        refine Sl.skip rfl rfl rfl rfl ?_
        refine Sl.skip rfl rfl rfl rfl ?_
        refine Sl.calm (Cm.pick_f rfl rfl) rfl ?_
        refine Sl.nil ?_
        refine At.weak [(3, _), (4, _), (6, _), (7, _), (8, _), (33, _), (53, _)] ⟨rfl, rfl, rfl, rfl, rfl, rfl, rfl, trivial⟩ ?_
        refine At.go ?_
        refine Sc.cond_f rfl ?_
        refine Sc.skip ?_
        refine At.go ?_
        refine Sc.seq ?_
        refine Sc.region ?_
        refine Sl.calm (Cm.assign rfl) rfl ?_
        refine Sl.nil ?_
        refine At.go ?_
        refine Sc.block ?_
        refine Sc.loop (β := Nat × List Int) (fun ⟨j, ts⟩ => [(3, .bool true), (4, .slice oa qs.length ca), (6, .slice ot qs.length qs.length), (7, .int .i64 i), (8, .slice oy ys.length cy), (9, .int .i64 j)]) (fun ⟨j, ts⟩ w => j ≤ ys.length ∧ Own i64 3 w.heap ot qs.length ts ∧ timI qs ts i (ys.take j) ∧ Foot (blk ot) w6 w) (fun ⟨j, ts⟩ => ys.length - j) ⟨0, ts⟩ ⟨rfl, rfl, rfl, rfl, rfl, rfl, trivial⟩ ⟨Nat.zero_le _, ho6, hti, Foot.refl _ _⟩ ?_
        rintro ⟨j, ts⟩ w7 ⟨hj, ho7, hti, hF67⟩
        refine Sc.seq ?_
        refine Sc.seq ?_
        refine Sc.region ?_
        refine Sl.calm (Cm.move rfl) rfl ?_
        refine Sl.calm (Cm.move rfl) rfl ?_
        refine Sl.calm (Cm.len sl37 rfl) rfl ?_
        refine Sl.fork (Cm.lss rfl rfl) rfl (fun h57 => ?_) (fun h57 => ?_)
        ·
          have hjl : j < ys.length := by omega
          obtain ⟨y, hyj⟩ : ∃ y, ys[j]? = some y := ⟨_, List.getElem?_eq_getElem hjl⟩
          have hyg : ys.getD j 0 = y := by rw [List.getD, hyj]; rfl
          have hym : 0 ≤ y ∧ y < qs.length := by have := List.mem_of_getElem? hyj; rw [hye] at this; obtain ⟨k, e, hk, _⟩ := kidG_mem.1 this; omega
          have hpw : ys.Pairwise (· < ·) := by rw [hye]; exact kidG_inc _
          have hvy := hoy.vw.keep hF67 (fun a ha ⟨b, hb, e⟩ => by have := ho5.lt b hb; have := hfy a ha; omega)
          have ho7v := ho7.vw
          have htl := hti.1
          refine Sl.nil ?_
          refine At.weak [(3, _), (4, _), (6, _), (7, _), (8, _), (9, _), (57, _)] ⟨rfl, rfl, rfl, rfl, rfl, rfl, rfl, trivial⟩ ?_
          refine At.go ?_
          refine Sc.cond_t rfl ?_
          refine Sc.skip ?_
          refine At.go ?_
          refine Sc.seq ?_
          refine Sc.block ?_
          refine Sc.seq ?_
          refine Sc.seq ?_
          refine Sc.draw 30 (fun H => Vw i64 H oy cy ys) [] [0, 1, 2, 3, 4, 5, 6, 7, 8, 9, 10, 11, 12, 13, 14, 15, 16, 17, 18, 19, 20, 21, 22, 23, 24, 25, 26, 27, 28, 29] mixed (by kernel_rfl) (hvy) ?_
          refine Sx.calm rfl rfl (Cm.move rfl) rfl ?_
          refine Sx.calm rfl rfl (Cm.move rfl) rfl ?_
          refine Sx.calm rfl rfl (Cm.indexAddr1 sl37 rfl rfl hvy.non (by omega)) rfl ?_
          refine Sx.calm rfl rfl (Cm.ofEq (u := .int .i64 y) (Cm.load sca3 rfl (fun H hH => hH.gd 0 hjl)) (by show i64 (ys.getD j 0) = i64 y; rw [hyg])) rfl ?_
          refine Sx.calm rfl rfl (Cm.no (Cm.lss rfl rfl) (by omega)) rfl ?_
          refine Sx.calm rfl rfl (Cm.move rfl) rfl ?_
          refine Sx.want rfl rfl rfl rfl (Cm.move rfl) rfl ?_
          refine Sx.want rfl rfl rfl rfl (Cm.move rfl) rfl ?_
          refine Sx.want rfl rfl rfl rfl (Cm.indexAddr1 sl37 rfl rfl hvy.non (by omega)) rfl ?_
          refine Sx.want rfl rfl rfl rfl (Cm.ofEq (u := .int .i64 y) (Cm.load sca3 rfl (fun H hH => hH.gd 0 hjl)) (by show i64 (ys.getD j 0) = i64 y; rw [hyg])) rfl ?_
          refine Sx.want rfl rfl rfl rfl (Cm.move rfl) rfl ?_
          refine Sx.want rfl rfl rfl rfl (Cm.len sl22 rfl) rfl ?_
          refine Sx.want rfl rfl rfl rfl (Cm.no (Cm.geq rfl rfl) (by omega)) rfl ?_
          refine Sx.calm rfl rfl (Cm.pick_f rfl rfl) rfl ?_
          refine Sx.calm rfl rfl (Cm.move rfl) rfl ?_
          refine Sx.want rfl rfl rfl rfl (Cm.move rfl) rfl ?_
          refine Sx.forkWant rfl rfl rfl rfl (Cm.gtr rfl rfl) rfl (fun h76 => ?_) (fun h76 => ?_)
          ·
            obtain ⟨x, hxj⟩ : ∃ x, ys[j - 1]? = some x := ⟨_, List.getElem?_eq_getElem (by omega)⟩
            have hxg : ys.getD (j - 1) 0 = x := by rw [List.getD, hxj]; rfl
            have hxy : x < y := by have e1 := List.getElem?_eq_some_iff.1 hxj; have e2 := List.getElem?_eq_some_iff.1 hyj; have := List.pairwise_iff_getElem.1 hpw (j - 1) j e1.1 e2.1 (by omega); rw [e1.2, e2.2] at this; exact this
            refine Sx.want rfl rfl rfl rfl (Cm.move rfl) rfl ?_
            refine Sx.want rfl rfl rfl rfl (Cm.move rfl) rfl ?_
            refine Sx.want rfl rfl rfl rfl (Cm.move rfl) rfl ?_
            refine Sx.want rfl rfl rfl rfl (Cm.sub64 rfl rfl (by omega)) rfl ?_
            refine Sx.want rfl rfl rfl rfl (Cm.indexAddr1 sl37 rfl rfl hvy.non (by omega)) rfl ?_
            refine Sx.want rfl rfl rfl rfl (Cm.ofEq (u := .int .i64 x) (Cm.load sca3 rfl (fun H hH => hH.gz 0 (j - 1) (by omega) (by omega))) (by rw [hxg]; rfl)) rfl ?_
            refine Sx.want rfl rfl rfl rfl (Cm.move rfl) rfl ?_
            refine Sx.want rfl rfl rfl rfl (Cm.move rfl) rfl ?_
            refine Sx.want rfl rfl rfl rfl (Cm.indexAddr1 sl37 rfl rfl hvy.non (by omega)) rfl ?_
            refine Sx.want rfl rfl rfl rfl (Cm.ofEq (u := .int .i64 y) (Cm.load sca3 rfl (fun H hH => hH.gd 0 hjl)) (by show i64 (ys.getD j 0) = i64 y; rw [hyg])) rfl ?_
            refine Sx.want rfl rfl rfl rfl (Cm.no (Cm.geq rfl rfl) (by omega)) rfl ?_
            refine Sx.want rfl rfl rfl rfl (Cm.pick_t rfl rfl) rfl ?_
            refine Sx.calm rfl rfl (Cm.pick_f rfl rfl) rfl ?_
            refine Sx.nil ?_
            refine At.weak [(3, _), (4, _), (6, _), (7, _), (8, _), (9, _), (57, _), (89, _)] ⟨rfl, rfl, rfl, rfl, rfl, rfl, rfl, rfl, trivial⟩ ?_
            refine At.go ?_
            refine Sc.cond_f rfl ?_
            refine Sc.skip ?_
            refine At.go ?_
            refine Sc.region ?_
            refine Sl.calm (Cm.move rfl) rfl ?_
            refine Sl.calm (Cm.move rfl) rfl ?_
            refine Sl.calm (Cm.move rfl) rfl ?_
            refine Sl.calm (Cm.indexAddr1 sl37 rfl rfl hvy.non (by omega)) rfl ?_
            refine Sl.calm (Cm.ofEq (u := .int .i64 y) (Cm.ld sca3 rfl ((hvy.grow (Foot.ofDraws 1)).gd 0 hjl)) (by show i64 (ys.getD j 0) = i64 y; rw [hyg])) rfl ?_
            have ho8v := ho7v.grow (Foot.ofDraws 1)
            refine Sl.calm (Cm.indexAddr1 sl37 rfl rfl (fun _ => ho8v.non (by omega)) (by omega)) rfl ?_
            refine Sl.calm (Cm.ofEq (u := .int .i64 (ts.getD y.toNat 0)) (Cm.ld sca3 rfl (ho8v.gz 0 y.toNat (by omega) (by omega))) rfl) rfl ?_
            have hcb := cntK_le (qs := qs) i y.toNat
            have htb := hti.2 y.toNat (by omega)
            have htb2 : 0 ≤ ts.getD y.toNat 0 ∧ ts.getD y.toNat 0 ≤ 1000 := by rw [htb]; split <;> omega
            refine Sl.calm (Cm.add64 rfl rfl (by omega)) rfl ?_
            refine Sl.calm (Cm.indexAddr1 sl37 rfl rfl (fun _ => ho8v.non (by omega)) (by omega)) rfl ?_
            refine Sl.storeRow i64_oneS sca3 (z := y) (u := ts.getD y.toNat 0 + 1) rfl rfl (ho7.grow (Foot.ofDraws 1)) (by omega) ?_
            intro w8 ho8 hs8 hf8
            have hti8 := hti.step hyj hym hpw
            have hF68 : Foot (blk ot) w6 w8 := (hF67.draws 1).trans hf8
            refine Sl.nil ?_
            refine At.block_normal ?_
            refine At.weak [(3, _), (4, _), (6, _), (7, _), (8, _), (9, _), (57, _), (89, _)] ⟨rfl, rfl, rfl, rfl, rfl, rfl, rfl, rfl, trivial⟩ ?_
            refine At.go ?_
            refine Sc.region ?_
            refine Sl.calm (Cm.move rfl) rfl ?_
            refine Sl.calm (Cm.add64 rfl rfl (by omega)) rfl ?_
            refine Sl.calm (Cm.assign rfl) rfl ?_
            refine Sl.nil ?_
            exact At.again ⟨j + 1, ts.set y.toNat (ts.getD y.toNat 0 + 1)⟩ ⟨rfl, rfl, rfl, rfl, rfl, rfl, trivial⟩ ⟨by omega, ho8, hti8, hF68⟩ (by show ys.length - (j + 1) < ys.length - j; omega)
          ·
            refine Sx.want rfl rfl rfl rfl (Cm.move rfl) rfl ?_
            refine Sx.skip rfl rfl rfl rfl rfl rfl ?_
            refine Sx.skip rfl rfl rfl rfl rfl rfl ?_
            refine Sx.skip rfl rfl rfl rfl rfl rfl ?_
            refine Sx.skip rfl rfl rfl rfl rfl rfl ?_
            refine Sx.skip rfl rfl rfl rfl rfl rfl ?_
            refine Sx.skip rfl rfl rfl rfl rfl rfl ?_
            refine Sx.skip rfl rfl rfl rfl rfl rfl ?_
            refine Sx.skip rfl rfl rfl rfl rfl rfl ?_
            refine Sx.skip rfl rfl rfl rfl rfl rfl ?_
            refine Sx.skip rfl rfl rfl rfl rfl rfl ?_
            refine Sx.want rfl rfl rfl rfl (Cm.pick_f rfl rfl) rfl ?_
            refine Sx.calm rfl rfl (Cm.pick_f rfl rfl) rfl ?_
            refine Sx.nil ?_
            refine At.weak [(3, _), (4, _), (6, _), (7, _), (8, _), (9, _), (57, _), (89, _)] ⟨rfl, rfl, rfl, rfl, rfl, rfl, rfl, rfl, trivial⟩ ?_
            refine At.go ?_
            refine Sc.cond_f rfl ?_
            refine Sc.skip ?_
            refine At.go ?_
            refine Sc.region ?_
            refine Sl.calm (Cm.move rfl) rfl ?_
            refine Sl.calm (Cm.move rfl) rfl ?_
            refine Sl.calm (Cm.move rfl) rfl ?_
            refine Sl.calm (Cm.indexAddr1 sl37 rfl rfl hvy.non (by omega)) rfl ?_
            refine Sl.calm (Cm.ofEq (u := .int .i64 y) (Cm.ld sca3 rfl ((hvy.grow (Foot.ofDraws 1)).gd 0 hjl)) (by show i64 (ys.getD j 0) = i64 y; rw [hyg])) rfl ?_
            have ho8v := ho7v.grow (Foot.ofDraws 1)
            refine Sl.calm (Cm.indexAddr1 sl37 rfl rfl (fun _ => ho8v.non (by omega)) (by omega)) rfl ?_
            refine Sl.calm (Cm.ofEq (u := .int .i64 (ts.getD y.toNat 0)) (Cm.ld sca3 rfl (ho8v.gz 0 y.toNat (by omega) (by omega))) rfl) rfl ?_
            have hcb := cntK_le (qs := qs) i y.toNat
            have htb := hti.2 y.toNat (by omega)
            have htb2 : 0 ≤ ts.getD y.toNat 0 ∧ ts.getD y.toNat 0 ≤ 1000 := by rw [htb]; split <;> omega
            refine Sl.calm (Cm.add64 rfl rfl (by omega)) rfl ?_
            refine Sl.calm (Cm.indexAddr1 sl37 rfl rfl (fun _ => ho8v.non (by omega)) (by omega)) rfl ?_
            refine Sl.storeRow i64_oneS sca3 (z := y) (u := ts.getD y.toNat 0 + 1) rfl rfl (ho7.grow (Foot.ofDraws 1)) (by omega) ?_
            intro w8 ho8 hs8 hf8
            have hti8 := hti.step hyj hym hpw
            have hF68 : Foot (blk ot) w6 w8 := (hF67.draws 1).trans hf8
            refine Sl.nil ?_
            refine At.block_normal ?_
            refine At.weak [(3, _), (4, _), (6, _), (7, _), (8, _), (9, _), (57, _), (89, _)] ⟨rfl, rfl, rfl, rfl, rfl, rfl, rfl, rfl, trivial⟩ ?_
            refine At.go ?_
            refine Sc.region ?_
            refine Sl.calm (Cm.move rfl) rfl ?_
            refine Sl.calm (Cm.add64 rfl rfl (by omega)) rfl ?_
            refine Sl.calm (Cm.assign rfl) rfl ?_
            refine Sl.nil ?_
            exact At.again ⟨j + 1, ts.set y.toNat (ts.getD y.toNat 0 + 1)⟩ ⟨rfl, rfl, rfl, rfl, rfl, rfl, trivial⟩ ⟨by omega, ho8, hti8, hF68⟩ (by show ys.length - (j + 1) < ys.length - j; omega)
        ·
          have hje : j = ys.length := by omega
          subst hje
          rw [List.take_length, hye, ← hnm] at hti
          refine Sl.nil ?_
          refine At.weak [(3, _), (4, _), (6, _), (7, _), (8, _), (9, _), (57, _)] ⟨rfl, rfl, rfl, rfl, rfl, rfl, rfl, trivial⟩ ?_
          refine At.go ?_
          refine Sc.cond_f rfl ?_
          refine Sc.exit ?_
          refine At.then_exit ?_
          refine At.then_exit ?_
          refine At.block_hit ?_
          refine At.block_normal ?_
          refine At.go ?_
          refine Sc.region ?_
          refine Sl.calm (Cm.move rfl) rfl ?_
          refine Sl.calm (Cm.add64 rfl rfl (by omega)) rfl ?_
          refine Sl.calm (Cm.assign rfl) rfl ?_
          refine Sl.nil ?_
          exact At.again ⟨i + 1, ts⟩ ⟨rfl, rfl, rfl, rfl, trivial⟩ ⟨by omega, ho7, hti.next, hF6.trans_to hF67 hft.step⟩ (by show qs.length - (i + 1) < qs.length - i; omega)
    ·
      have hie : i = qs.length := by omega
      subst hie
      refine Sl.nil ?_
      refine At.weak [(3, _), (4, _), (6, _), (7, _), (33, _)] ⟨rfl, rfl, rfl, rfl, rfl, trivial⟩ ?_
      refine At.go ?_
      refine Sc.cond_f rfl ?_
      refine Sc.exit ?_
      refine At.then_exit ?_
      refine At.then_exit ?_
      refine At.block_hit ?_
      refine At.go ?_
      refine Sc.seq ?_
      refine Sc.seq ?_
      refine Sc.region ?_
      refine Sl.calm (Cm.assign rfl) rfl ?_
      refine Sl.nil ?_
      refine At.go ?_
      refine Sc.block ?_
      refine Sc.loop (β := Nat) (fun i => [(3, .bool true), (4, .slice oa qs.length ca), (6, .slice ot qs.length qs.length), (10, .int .i64 i)]) (fun i w => i ≤ qs.length ∧ Foot nob w5 w) (fun i => qs.length - i) 0 ⟨rfl, rfl, rfl, rfl, trivial⟩ ⟨Nat.zero_le _, Foot.refl _ _⟩ ?_
      rintro i w9 ⟨hi, hF9⟩
      refine Sc.seq ?_
      refine Sc.seq ?_
      refine Sc.region ?_
      refine Sl.calm (Cm.move rfl) rfl ?_
      refine Sl.calm (Cm.move rfl) rfl ?_
      refine Sl.calm (Cm.len sl22 rfl) rfl ?_
      refine Sl.fork (Cm.lss rfl rfl) rfl (fun h102 => ?_) (fun h102 => ?_)
      ·
        have hil : i < qs.length := by omega
        obtain ⟨q, hqi⟩ : ∃ q, qs[i]? = some q := ⟨_, List.getElem?_eq_getElem hil⟩
        have hqm := List.mem_of_getElem? hqi
        have hv9 := (hva.grow hF5).grow hF9
        have hqn := (hv9.2 q hqm).1
        have hnm := nmG_at hqi
        have ho9 := ho5.grow hF9
        have htl := hti.1
        have htg := hti.2 i hil
        refine Sl.nil ?_
        refine At.weak [(3, _), (4, _), (6, _), (10, _), (102, _)] ⟨rfl, rfl, rfl, rfl, rfl, trivial⟩ ?_
        refine At.go ?_
        refine Sc.cond_t rfl ?_
        refine Sc.skip ?_
        refine At.go ?_
        refine Sc.seq ?_
        refine Sc.block ?_
        refine Sc.seq ?_
        refine Sc.region ?_
        refine Sl.calm (Cm.assign rfl) rfl ?_
        refine Sl.nil ?_
        refine At.go ?_
        refine Sc.seq ?_
        refine Sc.seq ?_
        refine Sc.region ?_
        refine Sl.calm (Cm.move rfl) rfl ?_
        refine Sl.calm (Cm.move rfl) rfl ?_
        refine Sl.calm (Cm.indexAddr sl22 rfl rfl hv9.1.non (by omega)) rfl ?_
        refine Sl.calm (Cm.field fld34_0 rfl) rfl ?_
        refine Sl.calm (Cm.ofEq (u := .slice q.1.names.a q.2.names.length q.1.names.c) (Cm.ld sca28 rfl (hv9.1.rowZ i rfl hqi 0 _ rfl)) (by rw [← hqn.1]; rfl)) rfl ?_
        refine Sl.calm (Cm.len sl28 rfl) rfl ?_
        refine Sl.fork (Cm.eql rfl rfl) rfl (fun h111 => ?_) (fun h111 => ?_)
        ·
          have hwz : ts.getD i 0 = 0 := by rw [htg, cntK_root _ (by rw [hnm]; exact List.length_eq_zero_iff.1 (by omega))]; simp
          refine Sl.nil ?_
          refine At.weak [(3, _), (4, _), (6, _), (10, _), (11, _), (102, _), (111, _)] ⟨rfl, rfl, rfl, rfl, rfl, rfl, rfl, trivial⟩ ?_
          refine At.go ?_
          refine Sc.cond_t rfl ?_
          refine Sc.region ?_
          refine Sl.calm (Cm.assign rfl) rfl ?_
          refine Sl.nil ?_
          refine At.go ?_
          refine Sc.seq ?_
          refine Sc.region ?_
          refine Sl.calm (Cm.move rfl) rfl ?_
          refine Sl.calm (Cm.move rfl) rfl ?_
          refine Sl.calm (Cm.indexAddr1 sl37 rfl rfl (fun _ => ho9.vw.non (by omega)) (by omega)) rfl ?_
          refine Sl.calm (Cm.ofEq (u := .int .i64 (ts.getD i 0)) (Cm.ld sca3 rfl (ho9.vw.gd 0 (by omega))) rfl) rfl ?_
          refine Sl.calm (Cm.move rfl) rfl ?_
          refine Sl.calm (Cm.no (Cm.neq rfl rfl) (by omega)) rfl ?_
          refine Sl.calm (Cm.move rfl) rfl ?_
          refine Sl.want rfl rfl (Cm.move rfl) rfl ?_
          refine Sl.want rfl rfl (Cm.move rfl) rfl ?_
          refine Sl.want rfl rfl (Cm.move rfl) rfl ?_
          refine Sl.want rfl rfl (Cm.indexAddr sl22 rfl rfl hv9.1.non (by omega)) rfl ?_
          refine Sl.want rfl rfl (Cm.field fld34_0 rfl) rfl ?_
          refine Sl.want rfl rfl (Cm.ld sca28 rfl (hv9.1.rowZ i rfl hqi 0 _ rfl)) rfl ?_
          refine Sl.callWant rfl rfl fn18 rfl (find_ok oa ca qs q.1.names q.2.names w9 hv9 hqn) rfl ?_
          rintro _ wA ⟨rfl, hfA⟩
          rw [findP_hit hqi rfl (fun k r hk hr e => by have := can_inj hz hq hr hqi e; omega)]
          refine Sl.want rfl rfl (Cm.move rfl) rfl ?_
          refine Sl.want rfl rfl (Cm.no (Cm.neq rfl rfl) (fun h => h rfl)) rfl ?_
          refine Sl.calm (Cm.pick_f rfl rfl) rfl ?_
          refine Sl.nil ?_
          refine At.weak [(3, _), (4, _), (6, _), (10, _), (11, _), (102, _), (111, _), (128, _)] ⟨rfl, rfl, rfl, rfl, rfl, rfl, rfl, rfl, trivial⟩ ?_
          refine At.go ?_
          refine Sc.cond_f rfl ?_
          refine Sc.skip ?_
          refine At.block_normal ?_
          refine At.go ?_
          refine Sc.region ?_
          refine Sl.calm (Cm.move rfl) rfl ?_
          refine Sl.calm (Cm.add64 rfl rfl (by omega)) rfl ?_
          refine Sl.calm (Cm.assign rfl) rfl ?_
          refine Sl.nil ?_
          exact At.again (i + 1) ⟨rfl, rfl, rfl, rfl, trivial⟩ ⟨by omega, hF9.trans hfA⟩ (by show qs.length - (i + 1) < qs.length - i; omega)
        ·
          have hwz : ts.getD i 0 = 1 := by rw [htg, cntK_one hz hq hqi (fun e => h111 (by rw [e]; rfl))]; simp
          refine Sl.nil ?_
          refine At.weak [(3, _), (4, _), (6, _), (10, _), (11, _), (102, _), (111, _)] ⟨rfl, rfl, rfl, rfl, rfl, rfl, rfl, trivial⟩ ?_
          refine At.go ?_
          refine Sc.cond_f rfl ?_
          refine Sc.skip ?_
          refine At.go ?_
          refine Sc.seq ?_
          refine Sc.region ?_
          refine Sl.calm (Cm.move rfl) rfl ?_
          refine Sl.calm (Cm.move rfl) rfl ?_
          refine Sl.calm (Cm.indexAddr1 sl37 rfl rfl (fun _ => ho9.vw.non (by omega)) (by omega)) rfl ?_
          refine Sl.calm (Cm.ofEq (u := .int .i64 (ts.getD i 0)) (Cm.ld sca3 rfl (ho9.vw.gd 0 (by omega))) rfl) rfl ?_
          refine Sl.calm (Cm.move rfl) rfl ?_
          refine Sl.calm (Cm.no (Cm.neq rfl rfl) (by omega)) rfl ?_
          refine Sl.calm (Cm.move rfl) rfl ?_
          refine Sl.want rfl rfl (Cm.move rfl) rfl ?_
          refine Sl.want rfl rfl (Cm.move rfl) rfl ?_
          refine Sl.want rfl rfl (Cm.move rfl) rfl ?_
          refine Sl.want rfl rfl (Cm.indexAddr sl22 rfl rfl hv9.1.non (by omega)) rfl ?_
          refine Sl.want rfl rfl (Cm.field fld34_0 rfl) rfl ?_
          refine Sl.want rfl rfl (Cm.ld sca28 rfl (hv9.1.rowZ i rfl hqi 0 _ rfl)) rfl ?_
          refine Sl.callWant rfl rfl fn18 rfl (find_ok oa ca qs q.1.names q.2.names w9 hv9 hqn) rfl ?_
          rintro _ wA ⟨rfl, hfA⟩
          rw [findP_hit hqi rfl (fun k r hk hr e => by have := can_inj hz hq hr hqi e; omega)]
          refine Sl.want rfl rfl (Cm.move rfl) rfl ?_
          refine Sl.want rfl rfl (Cm.no (Cm.neq rfl rfl) (fun h => h rfl)) rfl ?_
          refine Sl.calm (Cm.pick_f rfl rfl) rfl ?_
          refine Sl.nil ?_
          refine At.weak [(3, _), (4, _), (6, _), (10, _), (11, _), (102, _), (111, _), (128, _)] ⟨rfl, rfl, rfl, rfl, rfl, rfl, rfl, rfl, trivial⟩ ?_
          refine At.go ?_
          refine Sc.cond_f rfl ?_
          refine Sc.skip ?_
          refine At.block_normal ?_
          refine At.go ?_
          refine Sc.region ?_
          refine Sl.calm (Cm.move rfl) rfl ?_
          refine Sl.calm (Cm.add64 rfl rfl (by omega)) rfl ?_
          refine Sl.calm (Cm.assign rfl) rfl ?_
          refine Sl.nil ?_
          exact At.again (i + 1) ⟨rfl, rfl, rfl, rfl, trivial⟩ ⟨by omega, hF9.trans hfA⟩ (by show qs.length - (i + 1) < qs.length - i; omega)
      ·
        have hie : i = qs.length := by omega
        refine Sl.nil ?_
        refine At.weak [(3, _), (4, _), (6, _), (10, _), (102, _)] ⟨rfl, rfl, rfl, rfl, rfl, trivial⟩ ?_
        refine At.go ?_
        refine Sc.cond_f rfl ?_
        refine Sc.exit ?_
        refine At.then_exit ?_
        refine At.then_exit ?_
        refine At.block_hit ?_
        refine At.go ?_
        refine Sc.seq ?_
        refine Sc.region ?_
        refine Sl.calm (Cm.move rfl) rfl ?_
        refine Sl.calm (Cm.assign rfl) rfl ?_
        refine Sl.nil ?_
        refine At.weak [(2, _), (3, _), (4, _), (6, _), (10, _), (102, _)] ⟨rfl, rfl, rfl, rfl, rfl, rfl, trivial⟩ ?_
        refine At.go ?_
        refine Sc.ret ?_
        refine At.ret1 rfl rfl ?_
        first
          | exact ⟨_, rfl, rfl, hF3⟩
          | exact ⟨_, rfl, rfl, (hF3.trans hF5).trans hF9⟩
end Go.Proofs.Ytpnfjfbfgaiolaa
