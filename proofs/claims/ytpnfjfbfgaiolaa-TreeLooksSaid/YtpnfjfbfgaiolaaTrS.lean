/- tree: the reference's Sorted. No condition beyond the bounds that each states. -/
import Derived.Test.YtpnfjfbfgaiolaaTrQ
namespace Go.Proofs.Ytpnfjfbfgaiolaa
open Go Go.RowKit Go.Maps
set_option linter.unusedVariables false

variable {D D' : Nat → Prop}
theorem VwM.dropK {α : Type} {k : Nat} {enc : α → List Value} {H : Array Obj} {ao : Option Addr} {cap : Nat} {xs : List α} (v : VwM k enc H ao cap xs) {l : Nat} (hl : l ≤ xs.length) : VwM k enc H (cutAo ao cap l k) (cap - l) (xs.drop l) := by
  have h := v.cut (l := l) (h := xs.length) (m := cap) hl (Nat.le_refl _) v.le (Nat.le_refl _)
  rwa [List.take_of_length_le (by rw [List.length_drop]; exact Nat.le_refl _)] at h
set_option maxHeartbeats 8000000 in
theorem rsorted_ok (lo : Option Addr) (lc : Nat) (ps : List (NdH × Nd)) (W : World) (hv : NodesV D W.heap lo lc ps) (h1000 : ps.length ≤ 1024) :
    Calls Try.prog 53 [.slice lo ps.length lc].toArray W (Ret fun v w' => ∃ o c ys, v = .slice o (List.length (α := NdH × Nd) ys) c ∧ OwnM 10 encN 34 w'.heap o c ys ∧ Fr W.heap.size o ∧ ys.Perm ps ∧ ys.Pairwise ordP ∧ Foot nob W w') := by
  have h63 := hv.1.len63
  refine calls_of_sc 53 [(0, _)] Try.func53 rfl rfl rfl (enter_slots ⟨rfl, trivial⟩) ?_
  refine Sc.seq ?_
  refine Sc.region ?_
  refine Sl.calm (Cm.assign rfl) rfl ?_
  refine Sl.nil ?_
  refine At.go ?_
  refine Sc.seq ?_
  refine Sc.region ?_
  refine Sl.lit0M encN_cells sl22 rfl ?_
  intro w1 ho1 hs1 hf1
  refine Sl.calm (Cm.assign rfl) rfl ?_
  refine Sl.nil ?_
  refine At.weak [(0, _), (2, _), (3, _)] ⟨rfl, rfl, rfl, trivial⟩ ?_
  refine At.go ?_
  refine Sc.seq ?_
  refine Sc.seq ?_
  refine Sc.region ?_
  refine Sl.calm (Cm.assign rfl) rfl ?_
  refine Sl.nil ?_
  refine At.go ?_
  refine Sc.block ?_
  refine Sc.loop (β := Nat × Option Addr × Nat × List (NdH × Nd)) (fun ⟨i, o, c, ys⟩ => [(0, .slice lo ps.length lc), (3, .slice o ys.length c), (4, .int .i64 i)]) (fun ⟨i, o, c, ys⟩ w => i ≤ ps.length ∧ OwnM 10 encN 34 w.heap o c ys ∧ Fr W.heap.size o ∧ ys.Perm (ps.take i) ∧ ys.Pairwise ordP ∧ Foot nob W w) (fun ⟨i, o, c, ys⟩ => ps.length - i) ⟨0, some ⟨W.heap.size, 0, none⟩, 0, []⟩ ⟨rfl, rfl, rfl, trivial⟩ ⟨Nat.zero_le _, ho1, fun a ha => by cases ha; exact Nat.le_refl _, by simp, by simp, hf1⟩ ?_
  rintro ⟨i, o, c, ys⟩ w2 ⟨hi, ho2, hfo, hpe, hor, hF2⟩
  refine Sc.seq ?_
  refine Sc.seq ?_
  refine Sc.region ?_
  refine Sl.calm (Cm.move rfl) rfl ?_
  refine Sl.calm (Cm.move rfl) rfl ?_
  refine Sl.calm (Cm.len sl22 rfl) rfl ?_
  refine Sl.fork (Cm.lss rfl rfl) rfl (fun h11 => ?_) (fun h11 => ?_)
  ·
    have hil : i < ps.length := by omega
    obtain ⟨p, hp⟩ : ∃ p, ps[i]? = some p := ⟨_, List.getElem?_eq_getElem hil⟩
    have hpm := List.mem_of_getElem? hp
    have hv2 := hv.grow hF2
    have hyl : ys.length = i := by rw [hpe.length_eq, List.length_take]; omega
    have hym : ∀ q ∈ ys, q ∈ ps := fun q hq => List.mem_of_mem_take (hpe.mem_iff.1 hq)
    have hvy2 := ho2.vw encN_cells
    refine Sl.nil ?_
    refine At.weak [(0, _), (3, _), (4, _), (11, _)] ⟨rfl, rfl, rfl, rfl, trivial⟩ ?_
    refine At.go ?_
    refine Sc.cond_t rfl ?_
    refine Sc.skip ?_
    refine At.go ?_
    refine Sc.seq ?_
    refine Sc.block ?_
    refine Sc.seq ?_
    refine Sc.region ?_
    refine Sl.calm (Cm.move rfl) rfl ?_
    refine Sl.calm (Cm.len sl22 rfl) rfl ?_
    refine Sl.calm (Cm.assign rfl) rfl ?_
    refine Sl.nil ?_
    refine At.weak [(0, _), (3, _), (4, _), (5, _), (11, _)] ⟨rfl, rfl, rfl, rfl, rfl, trivial⟩ ?_
    refine At.go ?_
    refine Sc.cut (β := Nat) (fun k => [(0, .slice lo ps.length lc), (3, .slice o ys.length c), (4, .int .i64 i), (5, .int .i64 k)]) (fun k w => k ≤ ys.length ∧ (∀ (j : Nat) (q : NdH × Nd), k ≤ j → ys[j]? = some q → lessN p.2.names q.2.names = true) ∧ (∀ q : NdH × Nd, 0 < k → ys[k - 1]? = some q → lessN p.2.names q.2.names = false) ∧ Foot nob w2 w) ?_ ?_
    ·
      refine Sc.block ?_
      refine Sc.loop (β := Nat) (fun k => [(0, .slice lo ps.length lc), (3, .slice o ys.length c), (4, .int .i64 i), (5, .int .i64 k)]) (fun k w => k ≤ ys.length ∧ (∀ (j : Nat) (q : NdH × Nd), k ≤ j → ys[j]? = some q → lessN p.2.names q.2.names = true) ∧ Foot nob w2 w) (fun k => k) ys.length ⟨rfl, rfl, rfl, rfl, trivial⟩ ⟨Nat.le_refl _, fun j q hj hq => by have := (List.getElem?_eq_some_iff.1 hq).1; omega, Foot.refl _ _⟩ ?_
      rintro k w3 ⟨hkl, hbe, hF3⟩
      refine Sc.seq ?_
      refine Sc.seq ?_
      have hv3 := hv2.grow hF3
      have hvy3 := hvy2.keep' hF3 (fun _ _ _ => id)
      refine Sc.draw 16 (fun H => VwM 10 encN H lo lc ps ∧ VwM 10 encN H o c ys) [14] [0, 1, 2, 3, 4, 5, 6, 7, 8, 9, 10, 11, 12, 13, 14, 15] mixed (by kernel_rfl) (⟨hv3.1, hvy3⟩) ?_
      refine Sx.calm rfl rfl (Cm.move rfl) rfl ?_
      refine Sx.fork rfl rfl (Cm.gtr rfl rfl) rfl (fun h17 => ?_) (fun h17 => ?_)
      ·
        obtain ⟨q, hq⟩ : ∃ q, ys[k - 1]? = some q := ⟨_, List.getElem?_eq_getElem (by omega)⟩
        have hqm := hym q (List.mem_of_getElem? hq)
        refine Sx.calm rfl rfl (Cm.move rfl) rfl ?_
        refine Sx.want rfl rfl rfl rfl (Cm.move rfl) rfl ?_
        refine Sx.want rfl rfl rfl rfl (Cm.move rfl) rfl ?_
        refine Sx.want rfl rfl rfl rfl (Cm.indexAddr sl22 rfl rfl hv3.1.non (by omega)) rfl ?_
        refine Sx.want rfl rfl rfl rfl (Cm.field fld34_0 rfl) rfl ?_
        refine Sx.want rfl rfl rfl rfl (Cm.load sca28 rfl (fun H hH => hH.1.rowZ i rfl hp 0 _ rfl)) rfl ?_
        refine Sx.want rfl rfl rfl rfl (Cm.move rfl) rfl ?_
        refine Sx.want rfl rfl rfl rfl (Cm.move rfl) rfl ?_
        refine Sx.want rfl rfl rfl rfl (Cm.sub64 rfl rfl (by omega)) rfl ?_
        refine Sx.want rfl rfl rfl rfl (Cm.indexAddr sl22 rfl rfl hvy3.non (by omega)) rfl ?_
        refine Sx.want rfl rfl rfl rfl (Cm.field fld34_0 rfl) rfl ?_
        refine Sx.want rfl rfl rfl rfl (Cm.load sca28 rfl (fun H hH => hH.2.rowZ (k - 1) (by omega) hq 0 _ rfl)) rfl ?_
        have hpn := (hv3.2 p hpm).1
        have hqn := (hv3.2 q hqm).1
        refine Sx.eff rfl rfl (Sl.callWant rfl rfl fn25 rfl ((by show Calls _ _ [Value.slice p.1.names.a p.1.names.n p.1.names.c, Value.slice q.1.names.a q.1.names.n q.1.names.c].toArray _ _; rw [hpn.1, hqn.1]; exact rless_ok _ _ _ _ p.2.names q.2.names _ hpn.2.1 hqn.2.1)) rfl ?_)
        rintro _ w4 ⟨rfl, hf4⟩
        rw [show lessN p.2.names q.2.names = decide (lessN p.2.names q.2.names = true) by simp]
        have hF4 : Foot nob w2 w4 := (hF3.draws 1).trans hf4
        refine Sx.on (by exact ⟨hv2.1.keep' hF4 (fun _ _ _ => id), hvy2.keep' hF4 (fun _ _ _ => id)⟩) ?_
        by_cases h30 : lessN p.2.names q.2.names = true
        ·
          rw [decide_eq_true h30]
          refine Sx.calm rfl rfl (Cm.pick_t rfl rfl) rfl ?_
          refine Sx.nil ?_
          refine At.weak [(0, _), (3, _), (4, _), (5, _), (31, _)] ⟨rfl, rfl, rfl, rfl, rfl, trivial⟩ ?_
          refine At.go ?_
          refine Sc.cond_t rfl ?_
          refine Sc.skip ?_
          refine At.go ?_
          refine Sc.block ?_
          refine Sc.region ?_
          refine Sl.calm (Cm.move rfl) rfl ?_
          refine Sl.calm (Cm.sub64 rfl rfl (by omega)) rfl ?_
          refine Sl.calm (Cm.assign rfl) rfl ?_
          refine Sl.nil ?_
          refine At.block_normal ?_
          refine At.again (k - 1) ⟨rfl, rfl, rfl, congrArg (fun z : Int => some (Value.int .i64 z)) (by omega), trivial⟩ ⟨by omega, fun j r hj hr => ?_, hF4⟩ (by show k - 1 < k; omega)
          by_cases e : j = k - 1
          · subst e; rw [hq] at hr; cases hr; exact h30
          · exact hbe j r (by omega) hr
        ·
          rw [decide_eq_false h30]
          have hstop : ∀ q : NdH × Nd, 0 < k → ys[k - 1]? = some q → lessN p.2.names q.2.names = false := fun q2 _ h2 => by rw [hq] at h2; cases h2; simpa using h30
          refine Sx.calm rfl rfl (Cm.pick_t rfl rfl) rfl ?_
          refine Sx.nil ?_
          refine At.weak [(0, _), (3, _), (4, _), (5, _), (31, _)] ⟨rfl, rfl, rfl, rfl, rfl, trivial⟩ ?_
          refine At.go ?_
          refine Sc.cond_f rfl ?_
          refine Sc.exit ?_
          refine At.then_exit ?_
          refine At.then_exit ?_
          refine At.block_hit ?_
          first
            | exact At.cut k ⟨rfl, rfl, rfl, rfl, trivial⟩ ⟨hkl, hbe, hstop, hF4⟩
            | exact At.cut k ⟨rfl, rfl, rfl, rfl, trivial⟩ ⟨hkl, hbe, hstop, hF3.draws 1⟩
      ·
        have hstop : ∀ q : NdH × Nd, 0 < k → ys[k - 1]? = some q → lessN p.2.names q.2.names = false := fun q h => by omega
        refine Sx.calm rfl rfl (Cm.move rfl) rfl ?_
        refine Sx.skip rfl rfl rfl rfl rfl rfl ?_
        refine Sx.skip rfl rfl rfl rfl rfl rfl ?_
        refine Sx.skip rfl rfl rfl rfl rfl rfl ?_
        refine Sx.skip rfl rfl rfl rfl rfl rfl ?_
        refine Sx.skip rfl rfl rfl rfl rfl rfl ?_
        refine Sx.skip rfl rfl rfl rfl rfl rfl ?_
        refine Sx.skip rfl rfl rfl rfl rfl rfl ?_
        refine Sx.skip rfl rfl rfl rfl rfl rfl ?_
        refine Sx.skip rfl rfl rfl rfl rfl rfl ?_
        refine Sx.skip rfl rfl rfl rfl rfl rfl ?_
        refine Sx.skip rfl rfl rfl rfl rfl rfl ?_
        refine Sx.eff rfl rfl (Sl.skip rfl rfl rfl rfl ?_)
        refine Sx.on (by exact ⟨hv3.1, hvy3⟩) ?_
        refine Sx.calm rfl rfl (Cm.pick_f rfl rfl) rfl ?_
        refine Sx.nil ?_
        refine At.weak [(0, _), (3, _), (4, _), (5, _), (31, _)] ⟨rfl, rfl, rfl, rfl, rfl, trivial⟩ ?_
        refine At.go ?_
        refine Sc.cond_f rfl ?_
        refine Sc.exit ?_
        refine At.then_exit ?_
        refine At.then_exit ?_
        refine At.block_hit ?_
        first
          | exact At.cut k ⟨rfl, rfl, rfl, rfl, trivial⟩ ⟨hkl, hbe, hstop, hF4⟩
          | exact At.cut k ⟨rfl, rfl, rfl, rfl, trivial⟩ ⟨hkl, hbe, hstop, hF3.draws 1⟩
    ·
      rintro k w4 ⟨hkl, hbe, hstop, hF4⟩
      refine Sc.seq ?_
      refine Sc.region ?_
      refine Sl.lit0M encN_cells sl22 rfl ?_
      intro w5 ho5 hs5 hf5
      have hoy5 := (ho2.grow hF4).grow hf5
      have hvy5 := hoy5.vw encN_cells
      obtain ⟨g5, hg5⟩ : ∃ g5, g5 = w4.heap.size := ⟨_, rfl⟩
      rw [← hg5] at ho5 ⊢
      have hy5 : ∀ a, o = some a → a.block < g5 := fun a ha => by rw [hg5]; exact (ho2.grow hF4).lt a ha
      have hle := hvy5.le
      refine Sl.calm (Cm.move rfl) rfl ?_
      refine Sl.calm (Cm.move rfl) rfl ?_
      refine Sl.calm (Cm.ofEq (u := .slice (cutAo o c k 10) (ys.drop k).length (c - k)) (Cm.sliceL sl22 rfl rfl (by omega)) (by rw [List.length_drop]; rfl)) rfl ?_
      refine Sl.appendM encN_cells rfl sl22 rfl rfl ho5 (hvy5.dropK hkl) (by simp only [List.length_nil, List.length_drop]; omega) (by simp only [List.length_nil, List.length_drop]; unfold maxLen; omega) rfl ?_
      intro o6 c6 w6 ho6 hf6 hr6 hn6
      rw [List.nil_append] at ho6 ⊢
      have hF6 : Foot nob w2 w6 := (hF4.trans hf5).trans_to hf6 (fun j ⟨a, ha, e⟩ => .inr (by cases ha; have e : g5 = j := e; have := hF4.size; omega))
      have hoy6 := hoy5.keep hf6 (fun a ha ⟨b, hb, e⟩ => by cases hb; have e : g5 = a.block := e; have := hy5 a ha; omega)
      refine Sl.calm (Cm.assign rfl) rfl ?_
      refine Sl.nil ?_
      refine At.weak [(0, _), (3, _), (4, _), (5, _), (6, _)] ⟨rfl, rfl, rfl, rfl, rfl, trivial⟩ ?_
      refine At.go ?_
      refine Sc.drawT (fun H => VwM 10 encN H lo lc ps) [0, 4, 9, 10, 12] [1, 2, 3, 5, 6, 7, 8, 11] (.alt 0 [] (.alt 4 [] (.alt 9 [] (.alt 10 [] (.alt 12 [13] .fin .stop) .stop) .stop) (.alt 9 [] (.alt 4 [] (.alt 10 [] (.alt 12 [13] .fin .stop) .stop) .stop) .stop)) (.alt 9 [] (.alt 0 [] (.alt 4 [] (.alt 10 [] (.alt 12 [13] .fin .stop) .stop) .stop) .stop) .stop)) mixed (by kernel_rfl) (hv2.1.keep' hF6 (fun _ _ _ => id)) ?_
      have hG0 : Foot nob w2 (w6.drewN 1) := hF6.draws 1
      have hoy0 : OwnM 10 encN 34 (w6.drewN 1).heap o c ys := hoy6
      have hor0 : OwnM 10 encN 34 (w6.drewN 1).heap o6 c6 (ys.drop k) := ho6
      generalize w6.drewN 1 = v0 at hG0 hoy0 hor0 ⊢
      refine Sy.calm rfl rfl (Cm.move rfl) rfl ?_
      refine Sy.calm rfl rfl (Cm.move rfl) rfl ?_
      refine Sy.calm rfl rfl (Cm.ofEq (u := .slice o (ys.take k).length c) (Cm.sliceH sl22 rfl rfl (by omega)) (by rw [cutAo_zero, List.length_take, Nat.min_eq_left (by omega)]; rfl)) rfl ?_
      refine Sy.calm rfl rfl (Cm.move rfl) rfl ?_
      refine Sy.calm rfl rfl (Cm.move rfl) rfl ?_
      refine Sy.calm rfl rfl (Cm.indexAddr sl22 rfl rfl hv2.1.non (by omega)) rfl ?_
      refine Sy.calm rfl rfl (Cm.loadM (cs := encN p) agg34 rfl (fun H hH j v hj => hH.rowZ i rfl hp j v hj)) rfl ?_
      refine Sy.calm rfl rfl (Cm.move rfl) rfl ?_
      refine Sy.alt ?_ ?_
      ·
        refine Sy.eff rfl rfl (Sl.lit0M encN_cells sl22 rfl ?_)
        intro v1 hoa1 hsa hfa
        have hG1 := hG0.trans hfa
        have hoy1 := hoy0.grow hfa
        have hor1 := hor0.grow hfa
        obtain ⟨ga, hga⟩ : ∃ ga, ga = v0.heap.size := ⟨_, rfl⟩
        rw [← hga] at hoa1 ⊢
        have hgs1 : ga < v1.heap.size := hoa1.lt _ rfl
        have hgy : ∀ a, o = some a → a.block < ga := fun a ha => by rw [hga]; exact hoy0.lt a ha
        have hgr : ∀ a, o6 = some a → a.block < ga := fun a ha => by rw [hga]; exact hor0.lt a ha
        have hgW : w2.heap.size ≤ ga := by rw [hga]; exact hG0.size
        refine Sy.on (by exact hv2.1.keep' hG1 (fun _ _ _ => id)) ?_
        refine Sy.alt ?_ ?_
        ·
          refine Sy.eff rfl rfl (Sl.appendM encN_cells rfl sl22 rfl rfl hoa1 ((hoy1.vw encN_cells).take k) (by simp only [List.length_nil, List.length_take]; omega) (by simp only [List.length_nil, List.length_take]; unfold maxLen; omega) rfl ?_)
          intro o43 c43 v2 ho43_2 hf43 hr43 hn43
          rw [List.nil_append] at ho43_2 ⊢
          have hG2 : Foot nob w2 v2 := hG1.trans_to hf43 (fun j ⟨a, ha, e⟩ => .inr (by cases ha; have e : ga = j := e; omega))
          have hoy2 := hoy1.keep hf43 (fun a ha ⟨b, hb, e⟩ => by cases hb; have e : ga = a.block := e; have := hgy a ha; omega)
          have hor2 := hor1.keep hf43 (fun a ha ⟨b, hb, e⟩ => by cases hb; have e : ga = a.block := e; have := hgr a ha; omega)
          have hgs2 : ga < v2.heap.size := Nat.lt_of_lt_of_le hgs1 hf43.size
          have hfr43 : Fr ga o43 := fr_app (o := some ⟨ga, 0, none⟩) (fun a ha => by cases ha; exact Nat.le_refl _) hr43 (by omega)
          refine Sy.on (by exact hv2.1.keep' hG2 (fun _ _ _ => id)) ?_
          refine Sy.alt ?_ ?_
          ·
            refine Sy.eff rfl rfl (Sl.litG sl22 (cs := (encN p).toArray) zc34 rfl rfl rfl (by kernel_rfl) rfl ?_)
            intro v3 hgl hsl hfl
            have hob3 : OwnM 10 encN 34 v3.heap (some ⟨v2.heap.size, 0, none⟩) 1 [p] := ownM_new (xs := [p]) encN_cells (by simpa using hgl) (by show 1 ≤ maxLen; decide)
            obtain ⟨gb, hgbe⟩ : ∃ gb, gb = v2.heap.size := ⟨_, rfl⟩
            rw [← hgbe] at hob3 ⊢
            have hG3 := hG2.trans hfl
            have hoy3 := hoy2.grow hfl
            have hor3 := hor2.grow hfl
            have hgs3 : ga < v3.heap.size := Nat.lt_of_lt_of_le hgs2 hfl.size
            have ho43_3 := ho43_2.grow hfl
            refine Sy.on (by exact hv2.1.keep' hG3 (fun _ _ _ => id)) ?_
            refine Sy.alt ?_ ?_
            ·
              refine Sy.eff rfl rfl (Sl.appendM encN_cells rfl sl22 rfl rfl ho43_3 (hob3.vw encN_cells) (by simp only [List.length_singleton, List.length_take]; omega) (by simp only [List.length_singleton, List.length_take]; unfold maxLen; omega) rfl ?_)
              intro o49 c49 v4 ho49 hf49 hr49 hn49
              have hG4 : Foot nob w2 v4 := hG3.trans_to hf49 (fun j ⟨a, ha, e⟩ => .inr (by have := hfr43 a ha; omega))
              have hor4 := hor3.keep hf49 (fun a ha ⟨b, hb, e⟩ => by have := hfr43 b hb; have := hgr a ha; omega)
              have hgs4 : ga < v4.heap.size := Nat.lt_of_lt_of_le hgs3 hf49.size
              have hfr49 : Fr ga o49 := fr_app hfr43 hr49 (by omega)
              refine Sy.on (by exact hv2.1.keep' hG4 (fun _ _ _ => id)) ?_
              refine Sy.alt ?_ ?_
              ·
                refine Sy.eff rfl rfl (Sl.appendM encN_cells rfl sl22 rfl rfl ho49 (hor4.vw encN_cells) (by simp only [List.length_append, List.length_singleton, List.length_take, List.length_drop]; omega) (by simp only [List.length_append, List.length_singleton, List.length_take, List.length_drop]; unfold maxLen; omega) rfl ?_)
                intro o51 c51 v5 ho51 hf51 hr51 hn51
                rw [List.append_assoc] at ho51 ⊢
                have hG5 : Foot nob w2 v5 := hG4.trans_to hf51 (fun j ⟨a, ha, e⟩ => .inr (by have := hfr49 a ha; omega))
                have hfr51 : Fr ga o51 := fr_app hfr49 hr51 (by omega)
                refine Sy.on (by exact hv2.1.keep' hG5 (fun _ _ _ => id)) ?_
                refine Sy.calm rfl rfl (Cm.assign rfl) rfl ?_
                refine Sy.nil ?_
                refine At.block_normal ?_
                refine At.weak [(0, _), (3, _), (4, _), (5, _), (6, _)] ⟨rfl, rfl, rfl, rfl, rfl, trivial⟩ ?_
                refine At.go ?_
                refine Sc.region ?_
                refine Sl.calm (Cm.move rfl) rfl ?_
                refine Sl.calm (Cm.add64 rfl rfl (by omega)) rfl ?_
                refine Sl.calm (Cm.assign rfl) rfl ?_
                refine Sl.nil ?_
                exact At.again ⟨i + 1, o51, c51, ys.take k ++ p :: ys.drop k⟩ ⟨rfl, rfl, rfl, trivial⟩ ⟨by omega, ho51, fun a ha => by have := hfr51 a ha; have := hF2.size; omega, by rw [tkL hp]; exact ins_perm hpe, ins_ord hor hkl hbe hstop, hF2.trans hG5⟩ (by show ps.length - (i + 1) < ps.length - i; omega)
              exact Sy.stop
            exact Sy.stop
          exact Sy.stop
        refine Sy.alt ?_ ?_
        ·
          refine Sy.eff rfl rfl (Sl.litG sl22 (cs := (encN p).toArray) zc34 rfl rfl rfl (by kernel_rfl) rfl ?_)
          intro v2 hgl hsl hfl
          have hob2 : OwnM 10 encN 34 v2.heap (some ⟨v1.heap.size, 0, none⟩) 1 [p] := ownM_new (xs := [p]) encN_cells (by simpa using hgl) (by show 1 ≤ maxLen; decide)
          obtain ⟨gb, hgbe⟩ : ∃ gb, gb = v1.heap.size := ⟨_, rfl⟩
          rw [← hgbe] at hob2 ⊢
          have hG2 := hG1.trans hfl
          have hoy2 := hoy1.grow hfl
          have hor2 := hor1.grow hfl
          have hgs2 : ga < v2.heap.size := Nat.lt_of_lt_of_le hgs1 hfl.size
          have hoa2 := hoa1.grow hfl
          have hgb : ga < gb := by rw [hgbe]; exact hoa1.lt _ rfl
          refine Sy.on (by exact hv2.1.keep' hG2 (fun _ _ _ => id)) ?_
          refine Sy.alt ?_ ?_
          ·
            refine Sy.eff rfl rfl (Sl.appendM encN_cells rfl sl22 rfl rfl hoa2 ((hoy2.vw encN_cells).take k) (by simp only [List.length_nil, List.length_take]; omega) (by simp only [List.length_nil, List.length_take]; unfold maxLen; omega) rfl ?_)
            intro o43 c43 v3 ho43_3 hf43 hr43 hn43
            rw [List.nil_append] at ho43_3 ⊢
            have hG3 : Foot nob w2 v3 := hG2.trans_to hf43 (fun j ⟨a, ha, e⟩ => .inr (by cases ha; have e : ga = j := e; omega))
            have hoy3 := hoy2.keep hf43 (fun a ha ⟨b, hb, e⟩ => by cases hb; have e : ga = a.block := e; have := hgy a ha; omega)
            have hor3 := hor2.keep hf43 (fun a ha ⟨b, hb, e⟩ => by cases hb; have e : ga = a.block := e; have := hgr a ha; omega)
            have hgs3 : ga < v3.heap.size := Nat.lt_of_lt_of_le hgs2 hf43.size
            have hfr43 : Fr ga o43 := fr_app (o := some ⟨ga, 0, none⟩) (fun a ha => by cases ha; exact Nat.le_refl _) hr43 (by omega)
            have hob3 := hob2.keep hf43 (fun a ha ⟨b, hb, e⟩ => by cases hb; cases ha; have e : ga = gb := e; omega)
            refine Sy.on (by exact hv2.1.keep' hG3 (fun _ _ _ => id)) ?_
            refine Sy.alt ?_ ?_
            ·
              refine Sy.eff rfl rfl (Sl.appendM encN_cells rfl sl22 rfl rfl ho43_3 (hob3.vw encN_cells) (by simp only [List.length_singleton, List.length_take]; omega) (by simp only [List.length_singleton, List.length_take]; unfold maxLen; omega) rfl ?_)
              intro o49 c49 v4 ho49 hf49 hr49 hn49
              have hG4 : Foot nob w2 v4 := hG3.trans_to hf49 (fun j ⟨a, ha, e⟩ => .inr (by have := hfr43 a ha; omega))
              have hor4 := hor3.keep hf49 (fun a ha ⟨b, hb, e⟩ => by have := hfr43 b hb; have := hgr a ha; omega)
              have hgs4 : ga < v4.heap.size := Nat.lt_of_lt_of_le hgs3 hf49.size
              have hfr49 : Fr ga o49 := fr_app hfr43 hr49 (by omega)
              refine Sy.on (by exact hv2.1.keep' hG4 (fun _ _ _ => id)) ?_
              refine Sy.alt ?_ ?_
              ·
                refine Sy.eff rfl rfl (Sl.appendM encN_cells rfl sl22 rfl rfl ho49 (hor4.vw encN_cells) (by simp only [List.length_append, List.length_singleton, List.length_take, List.length_drop]; omega) (by simp only [List.length_append, List.length_singleton, List.length_take, List.length_drop]; unfold maxLen; omega) rfl ?_)
                intro o51 c51 v5 ho51 hf51 hr51 hn51
                rw [List.append_assoc] at ho51 ⊢
                have hG5 : Foot nob w2 v5 := hG4.trans_to hf51 (fun j ⟨a, ha, e⟩ => .inr (by have := hfr49 a ha; omega))
                have hfr51 : Fr ga o51 := fr_app hfr49 hr51 (by omega)
                refine Sy.on (by exact hv2.1.keep' hG5 (fun _ _ _ => id)) ?_
                refine Sy.calm rfl rfl (Cm.assign rfl) rfl ?_
                refine Sy.nil ?_
                refine At.block_normal ?_
                refine At.weak [(0, _), (3, _), (4, _), (5, _), (6, _)] ⟨rfl, rfl, rfl, rfl, rfl, trivial⟩ ?_
                refine At.go ?_
                refine Sc.region ?_
                refine Sl.calm (Cm.move rfl) rfl ?_
                refine Sl.calm (Cm.add64 rfl rfl (by omega)) rfl ?_
                refine Sl.calm (Cm.assign rfl) rfl ?_
                refine Sl.nil ?_
                exact At.again ⟨i + 1, o51, c51, ys.take k ++ p :: ys.drop k⟩ ⟨rfl, rfl, rfl, trivial⟩ ⟨by omega, ho51, fun a ha => by have := hfr51 a ha; have := hF2.size; omega, by rw [tkL hp]; exact ins_perm hpe, ins_ord hor hkl hbe hstop, hF2.trans hG5⟩ (by show ps.length - (i + 1) < ps.length - i; omega)
              exact Sy.stop
            exact Sy.stop
          exact Sy.stop
        exact Sy.stop
      refine Sy.alt ?_ ?_
      ·
        refine Sy.eff rfl rfl (Sl.litG sl22 (cs := (encN p).toArray) zc34 rfl rfl rfl (by kernel_rfl) rfl ?_)
        intro v1 hgl hsl hfl
        have hob1 : OwnM 10 encN 34 v1.heap (some ⟨v0.heap.size, 0, none⟩) 1 [p] := ownM_new (xs := [p]) encN_cells (by simpa using hgl) (by show 1 ≤ maxLen; decide)
        obtain ⟨gb, hgbe⟩ : ∃ gb, gb = v0.heap.size := ⟨_, rfl⟩
        rw [← hgbe] at hob1 ⊢
        have hG1 := hG0.trans hfl
        have hoy1 := hoy0.grow hfl
        have hor1 := hor0.grow hfl
        refine Sy.on (by exact hv2.1.keep' hG1 (fun _ _ _ => id)) ?_
        refine Sy.alt ?_ ?_
        ·
          refine Sy.eff rfl rfl (Sl.lit0M encN_cells sl22 rfl ?_)
          intro v2 hoa2 hsa hfa
          have hG2 := hG1.trans hfa
          have hoy2 := hoy1.grow hfa
          have hor2 := hor1.grow hfa
          obtain ⟨ga, hga⟩ : ∃ ga, ga = v1.heap.size := ⟨_, rfl⟩
          rw [← hga] at hoa2 ⊢
          have hgs2 : ga < v2.heap.size := hoa2.lt _ rfl
          have hgy : ∀ a, o = some a → a.block < ga := fun a ha => by rw [hga]; exact hoy1.lt a ha
          have hgr : ∀ a, o6 = some a → a.block < ga := fun a ha => by rw [hga]; exact hor1.lt a ha
          have hgW : w2.heap.size ≤ ga := by rw [hga]; exact hG1.size
          have hob2 := hob1.grow hfa
          have hgb : gb < ga := by rw [hga]; exact hob1.lt _ rfl
          refine Sy.on (by exact hv2.1.keep' hG2 (fun _ _ _ => id)) ?_
          refine Sy.alt ?_ ?_
          ·
            refine Sy.eff rfl rfl (Sl.appendM encN_cells rfl sl22 rfl rfl hoa2 ((hoy2.vw encN_cells).take k) (by simp only [List.length_nil, List.length_take]; omega) (by simp only [List.length_nil, List.length_take]; unfold maxLen; omega) rfl ?_)
            intro o43 c43 v3 ho43_3 hf43 hr43 hn43
            rw [List.nil_append] at ho43_3 ⊢
            have hG3 : Foot nob w2 v3 := hG2.trans_to hf43 (fun j ⟨a, ha, e⟩ => .inr (by cases ha; have e : ga = j := e; omega))
            have hoy3 := hoy2.keep hf43 (fun a ha ⟨b, hb, e⟩ => by cases hb; have e : ga = a.block := e; have := hgy a ha; omega)
            have hor3 := hor2.keep hf43 (fun a ha ⟨b, hb, e⟩ => by cases hb; have e : ga = a.block := e; have := hgr a ha; omega)
            have hgs3 : ga < v3.heap.size := Nat.lt_of_lt_of_le hgs2 hf43.size
            have hfr43 : Fr ga o43 := fr_app (o := some ⟨ga, 0, none⟩) (fun a ha => by cases ha; exact Nat.le_refl _) hr43 (by omega)
            have hob3 := hob2.keep hf43 (fun a ha ⟨b, hb, e⟩ => by cases hb; cases ha; have e : ga = gb := e; omega)
            refine Sy.on (by exact hv2.1.keep' hG3 (fun _ _ _ => id)) ?_
            refine Sy.alt ?_ ?_
            ·
              refine Sy.eff rfl rfl (Sl.appendM encN_cells rfl sl22 rfl rfl ho43_3 (hob3.vw encN_cells) (by simp only [List.length_singleton, List.length_take]; omega) (by simp only [List.length_singleton, List.length_take]; unfold maxLen; omega) rfl ?_)
              intro o49 c49 v4 ho49 hf49 hr49 hn49
              have hG4 : Foot nob w2 v4 := hG3.trans_to hf49 (fun j ⟨a, ha, e⟩ => .inr (by have := hfr43 a ha; omega))
              have hor4 := hor3.keep hf49 (fun a ha ⟨b, hb, e⟩ => by have := hfr43 b hb; have := hgr a ha; omega)
              have hgs4 : ga < v4.heap.size := Nat.lt_of_lt_of_le hgs3 hf49.size
              have hfr49 : Fr ga o49 := fr_app hfr43 hr49 (by omega)
              refine Sy.on (by exact hv2.1.keep' hG4 (fun _ _ _ => id)) ?_
              refine Sy.alt ?_ ?_
              ·
                refine Sy.eff rfl rfl (Sl.appendM encN_cells rfl sl22 rfl rfl ho49 (hor4.vw encN_cells) (by simp only [List.length_append, List.length_singleton, List.length_take, List.length_drop]; omega) (by simp only [List.length_append, List.length_singleton, List.length_take, List.length_drop]; unfold maxLen; omega) rfl ?_)
                intro o51 c51 v5 ho51 hf51 hr51 hn51
                rw [List.append_assoc] at ho51 ⊢
                have hG5 : Foot nob w2 v5 := hG4.trans_to hf51 (fun j ⟨a, ha, e⟩ => .inr (by have := hfr49 a ha; omega))
                have hfr51 : Fr ga o51 := fr_app hfr49 hr51 (by omega)
                refine Sy.on (by exact hv2.1.keep' hG5 (fun _ _ _ => id)) ?_
                refine Sy.calm rfl rfl (Cm.assign rfl) rfl ?_
                refine Sy.nil ?_
                refine At.block_normal ?_
                refine At.weak [(0, _), (3, _), (4, _), (5, _), (6, _)] ⟨rfl, rfl, rfl, rfl, rfl, trivial⟩ ?_
                refine At.go ?_
                refine Sc.region ?_
                refine Sl.calm (Cm.move rfl) rfl ?_
                refine Sl.calm (Cm.add64 rfl rfl (by omega)) rfl ?_
                refine Sl.calm (Cm.assign rfl) rfl ?_
                refine Sl.nil ?_
                exact At.again ⟨i + 1, o51, c51, ys.take k ++ p :: ys.drop k⟩ ⟨rfl, rfl, rfl, trivial⟩ ⟨by omega, ho51, fun a ha => by have := hfr51 a ha; have := hF2.size; omega, by rw [tkL hp]; exact ins_perm hpe, ins_ord hor hkl hbe hstop, hF2.trans hG5⟩ (by show ps.length - (i + 1) < ps.length - i; omega)
              exact Sy.stop
            exact Sy.stop
          exact Sy.stop
        exact Sy.stop
      exact Sy.stop
  ·
    have hie : i = ps.length := by omega
    subst hie
    rw [List.take_length] at hpe
    refine Sl.nil ?_
    refine At.weak [(0, _), (3, _), (4, _), (11, _)] ⟨rfl, rfl, rfl, rfl, trivial⟩ ?_
    refine At.go ?_
    refine Sc.cond_f rfl ?_
    refine Sc.exit ?_
    refine At.then_exit ?_
    refine At.then_exit ?_
    refine At.block_hit ?_
    refine At.go ?_
    refine Sc.seq ?_
    refine Sc.region ?_
    refine Sl.calm (Cm.move rfl) rfl ?_
    refine Sl.calm (Cm.assign rfl) rfl ?_
    refine Sl.nil ?_
    refine At.weak [(0, _), (2, _), (3, _), (4, _), (11, _)] ⟨rfl, rfl, rfl, rfl, rfl, trivial⟩ ?_
    refine At.go ?_
    refine Sc.ret ?_
    refine At.ret1 rfl rfl ?_
    exact ⟨_, rfl, o, c, ys, rfl, ho2, hfo, hpe, hor, hF2⟩
end Go.Proofs.Ytpnfjfbfgaiolaa
