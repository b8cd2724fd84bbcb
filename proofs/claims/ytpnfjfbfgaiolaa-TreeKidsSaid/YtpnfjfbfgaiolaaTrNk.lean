/- tree: the laws TreeChecks, TreeAlike. No condition beyond the bounds that each states. -/
import Derived.Test.YtpnfjfbfgaiolaaTrMk
namespace Go.Proofs.Ytpnfjfbfgaiolaa
open Go Go.RowKit Go.Maps
set_option linter.unusedVariables false

variable {D : Nat → Prop}
theorem sm_few {ps : List (NdH × Nd)} (h : ∀ p ∈ ps, okN p.2 ∧ smN p.2) : ∀ p ∈ fewL ps, smN p.2 := few_all fun p hp => (h p hp).2.few
theorem ok_few {ps : List (NdH × Nd)} (h : ∀ p ∈ ps, okN p.2 ∧ smN p.2) : ∀ p ∈ fewL ps, okN p.2 := few_all (R := okN) fun p hp => (h p hp).1
theorem treeChecks_ok (lo : Option Addr) (lc : Nat) (ps : List (NdH × Nd)) (W : World) (hv : NodesV D W.heap lo lc ps) (hw : ∀ p ∈ ps, okN p.2 ∧ smN p.2) :
    Calls Try.prog 3 [.slice lo ps.length lc].toArray W (Ret fun v w' => v = .bool true ∧ Foot nob W w') := by
  refine calls_of_sc 15 [(0, _)] Try.func3 rfl rfl rfl (enter_slots ⟨rfl, trivial⟩) ?_
  refine Sc.seq ?_
  refine Sc.region ?_
  refine Sl.calm (Cm.assign rfl) rfl ?_
  refine Sl.nil ?_
  refine At.go ?_
  refine Sc.seq ?_
  refine Sc.region ?_
  refine Sl.call fn10 rfl (shown_ok W) rfl ?_
  rintro _ w1 ⟨rfl, hf1⟩
  refine Sl.calm (Cm.assign rfl) rfl ?_
  refine Sl.nil ?_
  refine At.weak [(0, _), (2, _), (3, _)] ⟨rfl, rfl, rfl, trivial⟩ ?_
  refine At.go ?_
  refine Sc.seq ?_
  refine Sc.region ?_
  refine Sl.calm (Cm.move rfl) rfl ?_
  refine Sl.call fn11 rfl (few_ok lo lc ps w1 (hv.grow hf1)) rfl ?_
  rintro _ w2 ⟨o, c, rfl, ho, hfo, hf2, hvf⟩
  refine Sl.calm (Cm.assign rfl) rfl ?_
  refine Sl.nil ?_
  refine At.weak [(0, _), (2, _), (3, _)] ⟨rfl, rfl, rfl, trivial⟩ ?_
  refine At.go ?_
  refine Sc.seq ?_
  refine Sc.region ?_
  refine Sl.calm (Cm.move rfl) rfl ?_
  refine Sl.calm (Cm.move rfl) rfl ?_
  refine Sl.want rfl rfl (Cm.move rfl) rfl ?_
  refine Sl.callWant rfl rfl fn12 rfl (check_ok o c (fewL ps) w2 hvf (sm_few hw) (ok_few hw)) rfl ?_
  rintro _ w3 ⟨rfl, hf3⟩
  refine Sl.want rfl rfl (Cm.move rfl) rfl ?_
  refine Sl.callWant rfl rfl fn13 rfl (rcheck_ok o c (fewL ps) w3 (hvf.grow hf3) (sm_few hw)) rfl ?_
  rintro _ w4 ⟨rfl, hf4⟩
  refine Sl.want rfl rfl (Cm.yes (Cm.eql rfl rfl) rfl) rfl ?_
  refine Sl.calm (Cm.pick_t rfl rfl) rfl ?_
  refine Sl.calm (Cm.assign rfl) rfl ?_
  refine Sl.nil ?_
  refine At.weak [(0, _), (2, _), (3, _)] ⟨rfl, rfl, rfl, trivial⟩ ?_
  refine At.go ?_
  refine Sc.ret ?_
  refine At.ret1 rfl rfl ?_
  exact ⟨_, rfl, rfl, ((hf1.trans hf2).trans hf3).trans hf4⟩
/-- a node under other names -/
def othP (p : NdH × Nd) (h : Hd) (s : List (List UInt8)) (z : Int) : NdH × Nd := (⟨h, (fewP p).1.data, (fewP p).1.xs⟩, { fewN p.2 with names := s, ino := z })
theorem oth_alk (p : NdH × Nd) (h : Hd) (s : List (List UInt8)) (z : Int) : Alk (fewP p).2 (othP p h s z).2 := ⟨rfl, ⟨rfl, rfl, rfl⟩, rfl, rfl, rfl, rfl⟩
set_option maxHeartbeats 4000000 in
theorem treeAlike_ok (p q : NdH × Nd) (s : List (List UInt8)) (h : Hd) (W : World) (hp : NdV D W.heap p) (hq : NdV D W.heap q) (hs : NmV D W.heap h s) :
    Calls Try.prog 4 [.agg (encN p).toArray, .agg (encN q).toArray, hd h].toArray W (Ret fun v w' => v = .bool true ∧ Foot nob W w') := by
  have hpf := hp.few
  have hqf := hq.few
  have hof : NdV D W.heap (othP p h s q.2.ino) := ⟨hs, hpf.2⟩
  refine calls_of_sc 48 [(0, _), (1, _), (2, _)] Try.func4 rfl rfl rfl (enter_slots ⟨rfl, rfl, rfl, trivial⟩) ?_
  refine Sc.seq ?_
  refine Sc.region ?_
  refine Sl.box rfl rfl ?_
  intro w1 hg1 hs1 hf1
  obtain ⟨g, hg⟩ : ∃ g, g = W.heap.size := ⟨_, rfl⟩
  rw [← hg] at hg1 hs1 ⊢
  replace hg1 : w1.heap[g]? = some (.cells (encN p).toArray 34 (0, 0)) := hg1
  refine Sl.box rfl rfl ?_
  intro w2 hg2 hs2 hf2
  obtain ⟨r, hr⟩ : ∃ r, r = w1.heap.size := ⟨_, rfl⟩
  rw [← hr] at hg2 hs2 ⊢
  have hgq : w2.heap[r]? = some (.cells (encN q).toArray 34 (0, 0)) := hg2
  have hgp := hf2.obj hg1 id
  have hF2 := hf1.trans hf2
  refine Sl.calm (Cm.assign rfl) rfl ?_
  refine Sl.nil ?_
  refine At.go ?_
  refine Sc.seq ?_
  refine Sc.region ?_
  refine Sl.call fn10 rfl (shown_ok w2) rfl ?_
  rintro _ w3 ⟨rfl, hf3⟩
  have hgp3 := hf3.obj hgp id
  have hgq3 := hf3.obj hgq id
  refine Sl.calm (Cm.assign rfl) rfl ?_
  refine Sl.nil ?_
  refine At.weak [(0, _), (1, _), (2, _), (3, _), (4, _), (6, _), (7, _)] ⟨rfl, rfl, rfl, rfl, rfl, rfl, rfl, trivial⟩ ?_
  refine At.go ?_
  refine Sc.seq ?_
  refine Sc.region ?_
  refine Sl.calm (Cm.ldM (cs := encN p) agg34 rfl (cellsF hgp3 0 rfl)) rfl ?_
  refine Sl.calm (Cm.ldM (cs := encN q) agg34 rfl (cellsF hgq3 0 rfl)) rfl ?_
  refine Sl.litG sl22 (cs := (encN p ++ encN q).toArray) zc34 rfl rfl rfl (by kernel_rfl) rfl ?_
  intro w4 hg4 hs4 hf4
  have ho4 : OwnM 10 encN 34 w4.heap (some ⟨w3.heap.size, 0, none⟩) 2 [p, q] := ownM_new (xs := [p, q]) encN_cells (by simpa using hg4) (by show 2 ≤ maxLen; decide)
  have hF4 : Foot nob W w4 := (hF2.trans hf3).trans hf4
  refine Sl.call fn11 rfl (few_ok (some ⟨w3.heap.size, 0, none⟩) 2 [p, q] w4 ⟨ho4.vw encN_cells, by simp only [List.mem_cons, List.not_mem_nil, or_false]; rintro y (rfl | rfl); exact hp.grow hF4; exact hq.grow hF4⟩) rfl ?_
  rintro _ w5 ⟨o, c, rfl, ho, hfo, hf5, hvf⟩
  have hF5 : Foot nob W w5 := hF4.trans hf5
  have hvv : VwM 10 encN w5.heap o c [fewP p, fewP q] := hvf.1
  have hgq5 := (hf4.trans hf5).obj hgq3 id
  refine Sl.calm (Cm.assign rfl) rfl ?_
  refine Sl.nil ?_
  refine At.weak [(0, _), (1, _), (2, _), (3, _), (4, _), (6, _), (7, _), (8, _)] ⟨rfl, rfl, rfl, rfl, rfl, rfl, rfl, rfl, trivial⟩ ?_
  refine At.go ?_
  refine Sc.seq ?_
  refine Sc.region ?_
  refine Sl.calm (Cm.move rfl) rfl ?_
  refine Sl.calm (Cm.indexAddr sl22 rfl rfl hvv.non (by show (0 : Int) ≤ 0 ∧ (0 : Int) < 2; omega)) rfl ?_
  refine Sl.calm (Cm.ldM (cs := encN (fewP p)) agg34 rfl (fun j v hj => hvv.rowZ 0 rfl rfl j v hj)) rfl ?_
  refine Sl.allocC zc34 rfl ?_
  intro w6 hg6 hs6 hf6
  obtain ⟨z, hz⟩ : ∃ z, z = w5.heap.size := ⟨_, rfl⟩
  rw [← hz] at hg6 ⊢
  have hrz : r < z := by rw [hz]; exact (Array.getElem?_eq_some_iff.1 hgq5).1
  refine Sl.storeAll (vs := encN (fewP p)) agg34 rfl rfl (encN_cells _).2 hg6 rfl ?_
  intro w7 hg7 hs7 hf7
  have hf57 : Foot nob w5 w7 := hf6.trans_to hf7 (fun k e => .inr (by have e : k = z := e; omega))
  refine Sl.nil ?_
  refine At.weak [(0, _), (1, _), (2, _), (3, _), (4, _), (6, _), (7, _), (8, _), (9, _)] ⟨rfl, rfl, rfl, rfl, rfl, rfl, rfl, rfl, rfl, trivial⟩ ?_
  refine At.go ?_
  refine Sc.seq ?_
  refine Sc.region ?_
  refine Sl.calm (Cm.move rfl) rfl ?_
  refine Sl.calm (Cm.field fld34_0 rfl) rfl ?_
  refine Sl.store sca28 rfl rfl rfl hg7 rfl ?_
  intro w8 hg8 hs8 hf8
  have hf58 : Foot nob w5 w8 := hf57.trans_to hf8 (fun k e => .inr (by have e : k = z := e; omega))
  have hgq8 := hf58.obj hgq5 id
  refine Sl.nil ?_
  refine At.weak [(0, _), (1, _), (2, _), (3, _), (4, _), (6, _), (7, _), (8, _), (9, _)] ⟨rfl, rfl, rfl, rfl, rfl, rfl, rfl, rfl, rfl, trivial⟩ ?_
  refine At.go ?_
  refine Sc.seq ?_
  refine Sc.region ?_
  refine Sl.calm (Cm.field fld34_1 rfl) rfl ?_
  refine Sl.calm (Cm.ld sca3 rfl (cellF hgq8 rfl)) rfl ?_
  refine Sl.calm (Cm.field fld34_1 rfl) rfl ?_
  refine Sl.store sca3 rfl rfl rfl hg8 rfl ?_
  intro w9 hg9 hs9 hf9
  have hf59 : Foot nob w5 w9 := hf58.trans_to hf9 (fun k e => .inr (by have e : k = z := e; omega))
  have hgc : w9.heap[z]? = some (.cells (encN (othP p h s q.2.ino)).toArray 34 (0, 0)) := hg9
  have hF9 := hF5.trans hf59
  have hvv9 := hvv.keep' hf59 (fun _ _ _ => id)
  refine Sl.nil ?_
  refine At.weak [(0, _), (1, _), (2, _), (3, _), (4, _), (6, _), (7, _), (8, _), (9, _)] ⟨rfl, rfl, rfl, rfl, rfl, rfl, rfl, rfl, rfl, trivial⟩ ?_
  refine At.go ?_
  refine Sc.seq ?_
  refine Sc.draw 26 (fun H => VwM 10 encN H o c [fewP p, fewP q] ∧ H[z]? = some (.cells (encN (othP p h s q.2.ino)).toArray 34 (0, 0))) [8, 15, 23] [0, 1, 2, 3, 4, 5, 6, 7, 9, 10, 11, 12, 13, 14, 8, 15, 16, 17, 18, 19, 20, 21, 22, 23, 24, 25] mixed (by kernel_rfl) (⟨hvv9, hgc⟩) ?_
  refine Sx.calm rfl rfl (Cm.move rfl) rfl ?_
  refine Sx.calm rfl rfl (Cm.move rfl) rfl ?_
  refine Sx.want rfl rfl rfl rfl (Cm.move rfl) rfl ?_
  refine Sx.want rfl rfl rfl rfl (Cm.indexAddr sl22 rfl rfl hvv9.non (by show (0 : Int) ≤ 0 ∧ (0 : Int) < 2; omega)) rfl ?_
  refine Sx.want rfl rfl rfl rfl (Cm.loadM (cs := encN (fewP p)) agg34 rfl (fun H hH j v hj => hH.1.rowZ 0 rfl rfl j v hj)) rfl ?_
  refine Sx.want rfl rfl rfl rfl (Cm.move rfl) rfl ?_
  refine Sx.want rfl rfl rfl rfl (Cm.indexAddr sl22 rfl rfl hvv9.non (by show (0 : Int) ≤ 1 ∧ (1 : Int) < 2; omega)) rfl ?_
  refine Sx.want rfl rfl rfl rfl (Cm.loadM (cs := encN (fewP q)) agg34 rfl (fun H hH j v hj => hH.1.rowZ 1 rfl rfl j v hj)) rfl ?_
  refine Sx.want rfl rfl rfl rfl (Cm.move rfl) rfl ?_
  refine Sx.want rfl rfl rfl rfl (Cm.indexAddr sl22 rfl rfl hvv9.non (by show (0 : Int) ≤ 0 ∧ (0 : Int) < 2; omega)) rfl ?_
  refine Sx.want rfl rfl rfl rfl (Cm.loadM (cs := encN (fewP p)) agg34 rfl (fun H hH j v hj => hH.1.rowZ 0 rfl rfl j v hj)) rfl ?_
  refine Sx.want rfl rfl rfl rfl (Cm.move rfl) rfl ?_
  refine Sx.want rfl rfl rfl rfl (Cm.indexAddr sl22 rfl rfl hvv9.non (by show (0 : Int) ≤ 1 ∧ (1 : Int) < 2; omega)) rfl ?_
  refine Sx.want rfl rfl rfl rfl (Cm.loadM (cs := encN (fewP q)) agg34 rfl (fun H hH j v hj => hH.1.rowZ 1 rfl rfl j v hj)) rfl ?_
  refine Sx.eff rfl rfl (Sl.callWant rfl rfl fn14 rfl (alike_ok (fewP p) (fewP q) _ (hpf.grow (hF9.draws 1)) (hqf.grow (hF9.draws 1))) rfl ?_)
  rintro _ wa ⟨rfl, hfa⟩
  have hA : Foot nob w9 wa := hfa.undraw
  refine Sx.on (by exact ⟨hvv9.keep' hA (fun _ _ _ => id), hA.obj hgc id⟩) ?_
  refine Sx.eff rfl rfl (Sl.callWant rfl rfl fn15 rfl (ralike_ok (fewP p) (fewP q) _ (hpf.grow (hF9.trans hA)) (hqf.grow (hF9.trans hA))) rfl ?_)
  rintro _ wb ⟨rfl, hfb⟩
  have hB : Foot nob w9 wb := hA.trans hfb
  refine Sx.on (by exact ⟨hvv9.keep' hB (fun _ _ _ => id), hB.obj hgc id⟩) ?_
  refine Sx.want rfl rfl rfl rfl (Cm.ofEq (u := .bool true) (Cm.eqlBool ty4 rfl rfl) (by rw [beq_self_eq_true])) rfl ?_
  refine Sx.calm rfl rfl (Cm.pick_t rfl rfl) rfl ?_
  refine Sx.calm rfl rfl (Cm.move rfl) rfl ?_
  refine Sx.want rfl rfl rfl rfl (Cm.move rfl) rfl ?_
  refine Sx.want rfl rfl rfl rfl (Cm.indexAddr sl22 rfl rfl hvv9.non (by show (0 : Int) ≤ 0 ∧ (0 : Int) < 2; omega)) rfl ?_
  refine Sx.want rfl rfl rfl rfl (Cm.loadM (cs := encN (fewP p)) agg34 rfl (fun H hH j v hj => hH.1.rowZ 0 rfl rfl j v hj)) rfl ?_
  refine Sx.want rfl rfl rfl rfl (Cm.loadM (cs := encN (othP p h s q.2.ino)) agg34 rfl (fun H hH => cellsF hH.2 0 rfl)) rfl ?_
  refine Sx.eff rfl rfl (Sl.callWant rfl rfl fn14 rfl (alike_ok (fewP p) (othP p h s q.2.ino) _ (hpf.grow (hF9.trans hB)) (hof.grow (hF9.trans hB))) rfl ?_)
  rintro _ wc ⟨rfl, hfc⟩
  have hC : Foot nob w9 wc := hB.trans hfc
  rw [decide_eq_true (oth_alk p h s q.2.ino)]
  refine Sx.on (by exact ⟨hvv9.keep' hC (fun _ _ _ => id), hC.obj hgc id⟩) ?_
  refine Sx.calm rfl rfl (Cm.pick_t rfl rfl) rfl ?_
  refine Sx.calm rfl rfl (Cm.assign rfl) rfl ?_
  refine Sx.nil ?_
  refine At.weak [(0, _), (1, _), (2, _), (3, _), (4, _), (6, _), (7, _), (8, _), (9, _)] ⟨rfl, rfl, rfl, rfl, rfl, rfl, rfl, rfl, rfl, trivial⟩ ?_
  refine At.go ?_
  refine Sc.ret ?_
  refine At.ret1 rfl rfl ?_
  exact ⟨_, rfl, rfl, hF9.trans hC⟩
end Go.Proofs.Ytpnfjfbfgaiolaa
