/- merge: the document's examples. No condition. -/
import Derived.Test.YtpamandneifemaaMgFk
import Derived.Test.YtpamandneifemaaMgXk
namespace Go.Proofs.Ytpamandneifemaa
open Go Go.RowKit Go.Maps
set_option linter.unusedVariables false

theorem nA_v {H : Array Obj} {h : Hd} {L : List (List UInt8)} (hv : Vw strE H h.a h.c L) (hn : h.n = L.length) (k i : Int) (o : Bool) : NdV (fun _ => True) H (nA h L k i o) :=
  ⟨⟨hn, hv, fun _ _ _ => trivial⟩, (nil_v H).2⟩
theorem r9_v (H : Array Obj) : NdV (fun _ => True) H r9 := nil_v H
theorem lys2 {H : Array Obj} {o : Option Addr} {c : Nat} {h1 h2 : Hd} {p1 p2 : List (NdH × Nd)} (ho : Own hd 25 H o c [h1, h2]) (v1 : NodesV (fun _ => True) H h1.a h1.c p1) (v2 : NodesV (fun _ => True) H h2.a h2.c p2) (n1 : h1.n = p1.length) (n2 : h2.n = p2.length) : LysV (fun _ => True) H o c [h1, h2] [p1, p2] :=
  ⟨ho.vw, rfl, fun i h ps e1 e2 => by
    match i, e1, e2 with
    | 0, e1, e2 => cases e1; cases e2; exact ⟨n1, v1⟩
    | 1, e1, e2 => cases e1; cases e2; exact ⟨n2, v2⟩⟩
set_option maxHeartbeats 1000000 in
theorem at_ok (o : Option Addr) (c : Nat) (k : Int) (L : List (List UInt8)) (W : World) (hv : Vw strE W.heap o c L) :
    Calls Try.prog 29 [.int .i64 k, .slice o L.length c].toArray W (Ret fun v w' => v = .agg (encN (nA ⟨o, L.length, c⟩ L k L.length false)).toArray ∧ Foot nob W w') := by
  refine calls_of_sc 10 [(0, _), (1, _)] Try.func29 rfl rfl rfl (enter_slots ⟨rfl, rfl, trivial⟩) ?_
  refine Sc.seq ?_
  refine Sc.region ?_
  refine Sl.allocC zc35 rfl ?_
  intro w1 hg1 hs1 hf1
  obtain ⟨q, hq⟩ : ∃ q, q = W.heap.size := ⟨_, rfl⟩
  rw [← hq] at hg1 ⊢
  refine Sl.nil ?_
  refine At.go ?_
  refine Sc.seq ?_
  refine Sc.region ?_
  refine Sl.calm (Cm.move rfl) rfl ?_
  refine Sl.calm (Cm.move rfl) rfl ?_
  refine Sl.calm (Cm.move rfl) rfl ?_
  refine Sl.calm (Cm.len sl29 rfl) rfl ?_
  refine Sl.calm (Cm.build (cs := (encN (nA ⟨o, L.length, c⟩ L k L.length false)).toArray) plc35 zc35 rfl (by kernel_rfl)) rfl ?_
  refine Sl.storeAll (vs := encN (nA ⟨o, L.length, c⟩ L k L.length false)) agg35 rfl rfl (encN_cells _).2 hg1 rfl ?_
  intro w2 hg2 hs2 hf2
  have hF2 : Foot nob W w2 := hf1.trans_to hf2 (fun k e => .inr (by have e : k = q := e; omega))
  refine Sl.nil ?_
  refine At.weak [(0, _), (1, _), (4, _)] ⟨rfl, rfl, rfl, trivial⟩ ?_
  refine At.go ?_
  refine Sc.ret ?_
  refine At.retC1 (cs := encN (nA ⟨o, L.length, c⟩ L k L.length false)) rfl agg35 rfl (fun j v hj => cellF hg2 hj) ?_
  exact ⟨_, rfl, rfl, hF2⟩

def nD (g : Nat) : NdH × Nd := nA ⟨some ⟨g, 0, none⟩, 1, 1⟩ [[100]] 1 1 false
def nF (g : Nat) : NdH × Nd := nA ⟨some ⟨g, 0, none⟩, 2, 2⟩ [[100], [102]] 2 2 false
def nW (g : Nat) : NdH × Nd := nA ⟨some ⟨g, 0, none⟩, 1, 1⟩ [[97]] 4 1 false
def nFa (g : Nat) : NdH × Nd := nA ⟨some ⟨g, 0, none⟩, 1, 1⟩ [[97]] 2 1 false
def nFb (g : Nat) : NdH × Nd := nA ⟨some ⟨g, 0, none⟩, 1, 1⟩ [[98]] 2 5 false
def nH (g : Nat) : NdH × Nd := nA ⟨some ⟨g, 0, none⟩, 1, 1⟩ [[100]] 1 1 true
theorem nds_len {zs : List (NdH × Nd)} {l : List Nd} (h : nds zs = l) : zs.length = l.length := by rw [← h]; simp
theorem nds_at {zs : List (NdH × Nd)} {l : List Nd} (h : nds zs = l) {i : Nat} {n : Nd} (hi : l[i]? = some n) : ∃ z, zs[i]? = some z ∧ z.2 = n := by
  rw [← h] at hi
  simp only [nds, List.getElem?_map, Option.map_eq_some_iff] at hi
  exact hi
set_option maxHeartbeats 8000000 in
theorem mshown_ok (W : World) : Calls Try.prog 10 #[] W (Ret fun v w' => v = .bool true ∧ Foot nob W w') := by
  refine calls_of_sc 84 [] Try.func10 rfl rfl rfl (enter_slots trivial) ?_
  refine Sc.seq ?_
  refine Sc.region ?_
  refine Sl.calm (Cm.assign rfl) rfl ?_
  refine Sl.nil ?_
  refine At.go ?_
  refine Sc.seq ?_
  refine Sc.region ?_
  refine Sl.calm (Cm.build (cs := (encN r9).toArray) plc35 zc35 rfl (by kernel_rfl)) rfl ?_
  refine Sl.allocC zc35 rfl ?_
  intro w1 hg1 hs1 hf1
  obtain ⟨gr, egr⟩ : ∃ q, q = W.heap.size := ⟨_, rfl⟩
  rw [← egr] at hg1 ⊢
  refine Sl.storeAll (vs := encN r9) agg35 rfl rfl (encN_cells _).2 hg1 rfl ?_
  intro w2 hr2 hs2 hf2
  have hF2 : Foot nob W w2 := hf1.trans_to hf2 (fun k e => .inr (by have e : k = gr := e; omega))
  have hz2 := (Array.getElem?_eq_some_iff.1 hr2).1
  refine Sl.nil ?_
  refine At.weak [(0, _), (1, _)] ⟨rfl, rfl, trivial⟩ ?_
  refine At.go ?_
  refine Sc.seq ?_
  refine Sc.region ?_
  refine Sl.lit1 (enc := strE) (u := ([97] : List UInt8)) sl29 rfl rfl rfl ?_
  intro w3 hka3 hs3 hf3
  obtain ⟨ka, eka⟩ : ∃ g, g = w2.heap.size := ⟨_, rfl⟩
  rw [← eka] at hka3 ⊢
  refine Sl.call fn29 rfl (at_ok (some ⟨ka, 0, none⟩) 1 2 [[97]] w3 hka3.vw) rfl ?_
  rintro _ w4 ⟨rfl, hf4⟩
  refine Sl.allocC zc35 rfl ?_
  intro w5 hg5 hs5 hf5
  obtain ⟨qa, eqa⟩ : ∃ q, q = w4.heap.size := ⟨_, rfl⟩
  rw [← eqa] at hg5 ⊢
  refine Sl.storeAll (vs := encN (nFa ka)) agg35 rfl rfl (encN_cells _).2 hg5 rfl ?_
  intro w6 ha6 hs6 hf6
  have hf26 : Foot nob w2 w6 := ((hf3.trans hf4).trans hf5).trans_to hf6 (fun k e => .inr (by have e : k = qa := e; have := hf3.size; have := hf4.size; omega))
  have hr6 := hf26.obj hr2 id
  have hka6 : Own strE 9 w6.heap (some ⟨ka, 0, none⟩) 1 [[97]] := hka3.grow ((hf4.trans hf5).trans_to hf6 (fun k e => .inr (by have e : k = qa := e; have := hf4.size; omega)))
  have hF6 := hF2.trans hf26
  refine Sl.nil ?_
  refine At.weak [(0, _), (1, _), (2, _)] ⟨rfl, rfl, rfl, trivial⟩ ?_
  refine At.go ?_
  refine Sc.seq ?_
  refine Sc.region ?_
  refine Sl.lit1 (enc := strE) (u := ([98] : List UInt8)) sl29 rfl rfl rfl ?_
  intro x3 hkb3 hs3b hf3b
  obtain ⟨kb, ekb⟩ : ∃ g, g = w6.heap.size := ⟨_, rfl⟩
  rw [← ekb] at hkb3 ⊢
  refine Sl.call fn29 rfl (at_ok (some ⟨kb, 0, none⟩) 1 2 [[98]] x3 hkb3.vw) rfl ?_
  rintro _ x4 ⟨rfl, hf4b⟩
  refine Sl.allocC zc35 rfl ?_
  intro x5 hg5b hs5b hf5b
  obtain ⟨qb, eqb⟩ : ∃ q, q = x4.heap.size := ⟨_, rfl⟩
  rw [← eqb] at hg5b ⊢
  refine Sl.storeAll (vs := encN (nA ⟨some ⟨kb, 0, none⟩, 1, 1⟩ [[98]] 2 1 false)) agg35 rfl rfl (encN_cells _).2 hg5b rfl ?_
  intro x6 hb6 hs6b hf6b
  refine Sl.nil ?_
  refine At.weak [(0, _), (1, _), (2, _), (3, _)] ⟨rfl, rfl, rfl, rfl, trivial⟩ ?_
  refine At.go ?_
  refine Sc.seq ?_
  refine Sc.region ?_
  refine Sl.calm (Cm.field fld35_1 rfl) rfl ?_
  refine Sl.store sca3 rfl rfl rfl hb6 rfl ?_
  intro x7 hb7 hs7b hf7b
  have hb7 : x7.heap[qb]? = some (.cells (encN (nFb kb)).toArray 35 (0, 0)) := hb7
  have hf57 : Foot nob w6 x7 := ((hf3b.trans hf4b).trans hf5b).trans_to (hf6b.trans hf7b) (fun k e => .inr (by have e : k = qb := e; have := hf3b.size; have := hf4b.size; omega))
  have hr7 := hf57.obj hr6 id
  have ha7 := hf57.obj ha6 id
  have hka7 := hka6.grow hf57
  have hkb7 : Own strE 9 x7.heap (some ⟨kb, 0, none⟩) 1 [[98]] := hkb3.grow ((hf4b.trans hf5b).trans_to (hf6b.trans hf7b) (fun k e => .inr (by have e : k = qb := e; have := hf4b.size; omega)))
  have hF7 := hF6.trans hf57
  refine Sl.nil ?_
  refine At.weak [(0, _), (1, _), (2, _), (3, _)] ⟨rfl, rfl, rfl, rfl, trivial⟩ ?_
  refine At.go ?_
  refine Sc.seq ?_
  refine Sc.region ?_
  refine Sl.lit1 (enc := strE) (u := ([100] : List UInt8)) sl29 rfl rfl rfl ?_
  intro y3 hkh3 hs3c hf3c
  obtain ⟨kh, ekh⟩ : ∃ g, g = x7.heap.size := ⟨_, rfl⟩
  rw [← ekh] at hkh3 ⊢
  refine Sl.call fn29 rfl (at_ok (some ⟨kh, 0, none⟩) 1 1 [[100]] y3 hkh3.vw) rfl ?_
  rintro _ y4 ⟨rfl, hf4c⟩
  refine Sl.allocC zc35 rfl ?_
  intro y5 hg5c hs5c hf5c
  obtain ⟨qh, eqh⟩ : ∃ q, q = y4.heap.size := ⟨_, rfl⟩
  rw [← eqh] at hg5c ⊢
  refine Sl.storeAll (vs := encN (nA ⟨some ⟨kh, 0, none⟩, 1, 1⟩ [[100]] 1 1 false)) agg35 rfl rfl (encN_cells _).2 hg5c rfl ?_
  intro y6 hh6 hs6c hf6c
  refine Sl.nil ?_
  refine At.weak [(0, _), (1, _), (2, _), (3, _), (4, _)] ⟨rfl, rfl, rfl, rfl, rfl, trivial⟩ ?_
  refine At.go ?_
  refine Sc.seq ?_
  refine Sc.region ?_
  refine Sl.calm (Cm.field fld35_7 rfl) rfl ?_
  refine Sl.store sca4 rfl rfl rfl hh6 rfl ?_
  intro y7 hh7 hs7c hf7c
  have hh7 : y7.heap[qh]? = some (.cells (encN (nH kh)).toArray 35 (0, 0)) := hh7
  have hfxy : Foot nob x7 y7 := ((hf3c.trans hf4c).trans hf5c).trans_to (hf6c.trans hf7c) (fun k e => .inr (by have e : k = qh := e; have := hf3c.size; have := hf4c.size; omega))
  have hr := hfxy.obj hr7 id
  have ha := hfxy.obj ha7 id
  have hb := hfxy.obj hb7 id
  have hka := hka7.grow hfxy
  have hkb := hkb7.grow hfxy
  have hkh : Own strE 9 y7.heap (some ⟨kh, 0, none⟩) 1 [[100]] := hkh3.grow ((hf4c.trans hf5c).trans_to (hf6c.trans hf7c) (fun k e => .inr (by have e : k = qh := e; have := hf4c.size; omega)))
  have hFy := hF7.trans hfxy
  refine Sl.nil ?_
  refine At.weak [(0, _), (1, _), (2, _), (3, _), (4, _)] ⟨rfl, rfl, rfl, rfl, rfl, trivial⟩ ?_
  refine At.go ?_
  refine Sc.cut (β := Nat × Nat × Nat) (fun ⟨ga, gb, gc⟩ => [(1, .pointer (some ⟨gr, 0, none⟩)), (2, .pointer (some ⟨qa, 0, none⟩)), (3, .pointer (some ⟨qb, 0, none⟩)), (4, .pointer (some ⟨qh, 0, none⟩)), (5, .slice (some ⟨gc, 0, none⟩) 3 3)]) (fun ⟨ga, gb, gc⟩ w => Own strE 9 w.heap (some ⟨ga, 0, none⟩) 1 [[100]] ∧ Own strE 9 w.heap (some ⟨gb, 0, none⟩) 2 [[100], [102]] ∧ OwnM 10 encN 35 w.heap (some ⟨gc, 0, none⟩) 3 [r9, nD ga, nF gb] ∧ Foot nob y7 w) ?_ ?_
  ·
    refine Sc.drawT (fun H => H[gr]? = some (.cells (encN r9).toArray 35 (0, 0))) [1, 2, 3, 4, 5] [0] (.alt 1 [] (.alt 2 [] (.alt 3 [] (.alt 4 [] (.alt 5 [6] .fin .stop) .stop) .stop) (.alt 3 [] (.alt 2 [] (.alt 4 [] (.alt 5 [6] .fin .stop) .stop) .stop) .stop)) (.alt 3 [] (.alt 1 [] (.alt 2 [] (.alt 4 [] (.alt 5 [6] .fin .stop) .stop) .stop) .stop) .stop)) mixed (by kernel_rfl) (hr) ?_
    have hG0 : Foot nob y7 (y7.drewN 1) := Foot.ofDraws 1
    generalize y7.drewN 1 = v0 at hG0 ⊢
    refine Sy.calm rfl rfl (Cm.loadM (cs := encN r9) agg35 rfl (fun H hH j v hj => cellsF hH 0 rfl j v hj)) rfl ?_
    refine Sy.alt ?_ ?_
    ·
      refine Sy.eff rfl rfl (Sl.lit1 (enc := strE) (u := ([100] : List UInt8)) sl29 rfl rfl rfl ?_)
      intro v1 hA1 hs_1 hf_1
      have hG1 := hG0.trans hf_1
      obtain ⟨ga, ega⟩ : ∃ g, g = v0.heap.size := ⟨_, rfl⟩
      rw [← ega] at hA1 ⊢
      refine Sy.on (by exact (hG1.obj hr id)) ?_
      refine Sy.alt ?_ ?_
      ·
        refine Sy.eff rfl rfl (Sl.call fn29 rfl (at_ok (some ⟨ga, 0, none⟩) 1 1 [[100]] v1 hA1.vw) rfl ?_)
        rintro _ v2 ⟨rfl, hf_2⟩
        have hG2 := hG1.trans hf_2
        have hA2 := hA1.grow hf_2
        refine Sy.on (by exact (hG2.obj hr id)) ?_
        refine Sy.alt ?_ ?_
        ·
          refine Sy.eff rfl rfl (Sl.lit2 (enc := strE) (u := ([100] : List UInt8)) (u' := [102]) sl29 strE_one rfl rfl rfl ?_)
          intro v3 hB3 hs_3 hf_3
          have hG3 := hG2.trans hf_3
          have hA3 := hA2.grow hf_3
          obtain ⟨gb, egb⟩ : ∃ g, g = v2.heap.size := ⟨_, rfl⟩
          rw [← egb] at hB3 ⊢
          refine Sy.on (by exact (hG3.obj hr id)) ?_
          refine Sy.alt ?_ ?_
          ·
            refine Sy.eff rfl rfl (Sl.call fn29 rfl (at_ok (some ⟨gb, 0, none⟩) 2 2 [[100], [102]] v3 hB3.vw) rfl ?_)
            rintro _ v4 ⟨rfl, hf_4⟩
            have hG4 := hG3.trans hf_4
            have hA4 := hA3.grow hf_4
            have hB4 := hB3.grow hf_4
            refine Sy.on (by exact (hG4.obj hr id)) ?_
            refine Sy.alt ?_ ?_
            ·
              refine Sy.eff rfl rfl (Sl.litG sl25 (cs := (encN r9 ++ encN (nD ga) ++ encN (nF gb)).toArray) zc35 rfl rfl rfl (by kernel_rfl) rfl ?_)
              intro v5 hC5 hs_5 hf_5
              have hG5 := hG4.trans hf_5
              have hA5 := hA4.grow hf_5
              have hB5 := hB4.grow hf_5
              obtain ⟨gc, egc⟩ : ∃ g, g = v4.heap.size := ⟨_, rfl⟩
              rw [← egc] at hC5 ⊢
              have hC : OwnM 10 encN 35 v5.heap (some ⟨gc, 0, none⟩) 3 [r9, nD ga, nF gb] := ownM_new (xs := [r9, nD ga, nF gb]) encN_cells (by simpa using hC5) (by show 3 ≤ maxLen; decide)
              refine Sy.on (by exact (hG5.obj hr id)) ?_
              refine Sy.calm rfl rfl (Cm.assign rfl) rfl ?_
              refine Sy.nil ?_
              exact At.cut ⟨ga, gb, gc⟩ ⟨rfl, rfl, rfl, rfl, rfl, trivial⟩ ⟨hA5, hB5, hC, hG5⟩
            exact Sy.stop
          exact Sy.stop
        exact Sy.stop
      refine Sy.alt ?_ ?_
      ·
        refine Sy.eff rfl rfl (Sl.lit2 (enc := strE) (u := ([100] : List UInt8)) (u' := [102]) sl29 strE_one rfl rfl rfl ?_)
        intro v2 hB2 hs_2 hf_2
        have hG2 := hG1.trans hf_2
        have hA2 := hA1.grow hf_2
        obtain ⟨gb, egb⟩ : ∃ g, g = v1.heap.size := ⟨_, rfl⟩
        rw [← egb] at hB2 ⊢
        refine Sy.on (by exact (hG2.obj hr id)) ?_
        refine Sy.alt ?_ ?_
        ·
          refine Sy.eff rfl rfl (Sl.call fn29 rfl (at_ok (some ⟨ga, 0, none⟩) 1 1 [[100]] v2 hA2.vw) rfl ?_)
          rintro _ v3 ⟨rfl, hf_3⟩
          have hG3 := hG2.trans hf_3
          have hA3 := hA2.grow hf_3
          have hB3 := hB2.grow hf_3
          refine Sy.on (by exact (hG3.obj hr id)) ?_
          refine Sy.alt ?_ ?_
          ·
            refine Sy.eff rfl rfl (Sl.call fn29 rfl (at_ok (some ⟨gb, 0, none⟩) 2 2 [[100], [102]] v3 hB3.vw) rfl ?_)
            rintro _ v4 ⟨rfl, hf_4⟩
            have hG4 := hG3.trans hf_4
            have hA4 := hA3.grow hf_4
            have hB4 := hB3.grow hf_4
            refine Sy.on (by exact (hG4.obj hr id)) ?_
            refine Sy.alt ?_ ?_
            ·
              refine Sy.eff rfl rfl (Sl.litG sl25 (cs := (encN r9 ++ encN (nD ga) ++ encN (nF gb)).toArray) zc35 rfl rfl rfl (by kernel_rfl) rfl ?_)
              intro v5 hC5 hs_5 hf_5
              have hG5 := hG4.trans hf_5
              have hA5 := hA4.grow hf_5
              have hB5 := hB4.grow hf_5
              obtain ⟨gc, egc⟩ : ∃ g, g = v4.heap.size := ⟨_, rfl⟩
              rw [← egc] at hC5 ⊢
              have hC : OwnM 10 encN 35 v5.heap (some ⟨gc, 0, none⟩) 3 [r9, nD ga, nF gb] := ownM_new (xs := [r9, nD ga, nF gb]) encN_cells (by simpa using hC5) (by show 3 ≤ maxLen; decide)
              refine Sy.on (by exact (hG5.obj hr id)) ?_
              refine Sy.calm rfl rfl (Cm.assign rfl) rfl ?_
              refine Sy.nil ?_
              exact At.cut ⟨ga, gb, gc⟩ ⟨rfl, rfl, rfl, rfl, rfl, trivial⟩ ⟨hA5, hB5, hC, hG5⟩
            exact Sy.stop
          exact Sy.stop
        exact Sy.stop
      exact Sy.stop
    refine Sy.alt ?_ ?_
    ·
      refine Sy.eff rfl rfl (Sl.lit2 (enc := strE) (u := ([100] : List UInt8)) (u' := [102]) sl29 strE_one rfl rfl rfl ?_)
      intro v1 hB1 hs_1 hf_1
      have hG1 := hG0.trans hf_1
      obtain ⟨gb, egb⟩ : ∃ g, g = v0.heap.size := ⟨_, rfl⟩
      rw [← egb] at hB1 ⊢
      refine Sy.on (by exact (hG1.obj hr id)) ?_
      refine Sy.alt ?_ ?_
      ·
        refine Sy.eff rfl rfl (Sl.lit1 (enc := strE) (u := ([100] : List UInt8)) sl29 rfl rfl rfl ?_)
        intro v2 hA2 hs_2 hf_2
        have hG2 := hG1.trans hf_2
        have hB2 := hB1.grow hf_2
        obtain ⟨ga, ega⟩ : ∃ g, g = v1.heap.size := ⟨_, rfl⟩
        rw [← ega] at hA2 ⊢
        refine Sy.on (by exact (hG2.obj hr id)) ?_
        refine Sy.alt ?_ ?_
        ·
          refine Sy.eff rfl rfl (Sl.call fn29 rfl (at_ok (some ⟨ga, 0, none⟩) 1 1 [[100]] v2 hA2.vw) rfl ?_)
          rintro _ v3 ⟨rfl, hf_3⟩
          have hG3 := hG2.trans hf_3
          have hB3 := hB2.grow hf_3
          have hA3 := hA2.grow hf_3
          refine Sy.on (by exact (hG3.obj hr id)) ?_
          refine Sy.alt ?_ ?_
          ·
            refine Sy.eff rfl rfl (Sl.call fn29 rfl (at_ok (some ⟨gb, 0, none⟩) 2 2 [[100], [102]] v3 hB3.vw) rfl ?_)
            rintro _ v4 ⟨rfl, hf_4⟩
            have hG4 := hG3.trans hf_4
            have hB4 := hB3.grow hf_4
            have hA4 := hA3.grow hf_4
            refine Sy.on (by exact (hG4.obj hr id)) ?_
            refine Sy.alt ?_ ?_
            ·
              refine Sy.eff rfl rfl (Sl.litG sl25 (cs := (encN r9 ++ encN (nD ga) ++ encN (nF gb)).toArray) zc35 rfl rfl rfl (by kernel_rfl) rfl ?_)
              intro v5 hC5 hs_5 hf_5
              have hG5 := hG4.trans hf_5
              have hB5 := hB4.grow hf_5
              have hA5 := hA4.grow hf_5
              obtain ⟨gc, egc⟩ : ∃ g, g = v4.heap.size := ⟨_, rfl⟩
              rw [← egc] at hC5 ⊢
              have hC : OwnM 10 encN 35 v5.heap (some ⟨gc, 0, none⟩) 3 [r9, nD ga, nF gb] := ownM_new (xs := [r9, nD ga, nF gb]) encN_cells (by simpa using hC5) (by show 3 ≤ maxLen; decide)
              refine Sy.on (by exact (hG5.obj hr id)) ?_
              refine Sy.calm rfl rfl (Cm.assign rfl) rfl ?_
              refine Sy.nil ?_
              exact At.cut ⟨ga, gb, gc⟩ ⟨rfl, rfl, rfl, rfl, rfl, trivial⟩ ⟨hA5, hB5, hC, hG5⟩
            exact Sy.stop
          exact Sy.stop
        exact Sy.stop
      exact Sy.stop
    exact Sy.stop
  ·
    rintro ⟨ga, gb, gc⟩ w8 ⟨hga8, hgb8, hC8, hFy8⟩
    have hr8 := hFy8.obj hr id
    have ha8 := hFy8.obj ha id
    have hb8 := hFy8.obj hb id
    have hh8 := hFy8.obj hh7 id
    have hka8 := hka.grow hFy8
    have hkb8 := hkb.grow hFy8
    have hkh8 := hkh.grow hFy8
    refine Sc.cut (β := Option Addr × Nat × List (NdH × Nd)) (fun ⟨ox, cx, zx⟩ => [(1, .pointer (some ⟨gr, 0, none⟩)), (4, .pointer (some ⟨qh, 0, none⟩)), (5, .slice (some ⟨gc, 0, none⟩) 3 3), (6, .slice ox zx.length cx)]) (fun ⟨ox, cx, zx⟩ w => OwnM 10 encN 35 w.heap ox cx zx ∧ nds zx = [nB [] 1 1, nB [[98]] 2 2] ∧ (∀ z ∈ zx, NdV (fun _ => True) w.heap z) ∧ Foot nob w8 w) ?_ ?_
    ·
      refine Sc.drawT (fun H => H[gr]? = some (.cells (encN r9).toArray 35 (0, 0)) ∧ H[qa]? = some (.cells (encN (nFa ka)).toArray 35 (0, 0)) ∧ H[qb]? = some (.cells (encN (nFb kb)).toArray 35 (0, 0))) [1, 2, 3, 7, 8, 9] [0, 4, 5, 6] (.alt 1 [] (.alt 2 [] (.alt 3 [] (.alt 7 [] (.alt 8 [] (.alt 9 [10] .fin .stop) .stop) .stop) (.alt 7 [] (.alt 3 [] (.alt 8 [] (.alt 9 [10] .fin .stop) .stop) .stop) .stop)) (.alt 7 [] (.alt 2 [] (.alt 3 [] (.alt 8 [] (.alt 9 [10] .fin .stop) .stop) .stop) .stop) .stop)) (.alt 7 [] (.alt 1 [] (.alt 2 [] (.alt 3 [] (.alt 8 [] (.alt 9 [10] .fin .stop) .stop) .stop) .stop) .stop) .stop)) mixed (by kernel_rfl) (⟨hr8, ha8, hb8⟩) ?_
      have hG0 : Foot nob w8 (w8.drewN 1) := Foot.ofDraws 1
      generalize w8.drewN 1 = v0 at hG0 ⊢
      refine Sy.calm rfl rfl (Cm.loadM (cs := encN r9) agg35 rfl (fun H hH j v hj => cellsF hH.1 0 rfl j v hj)) rfl ?_
      refine Sy.calm rfl rfl (Cm.loadM (cs := encN r9) agg35 rfl (fun H hH j v hj => cellsF hH.1 0 rfl j v hj)) rfl ?_
      refine Sy.calm rfl rfl (Cm.loadM (cs := encN (nFa ka)) agg35 rfl (fun H hH j v hj => cellsF hH.2.1 0 rfl j v hj)) rfl ?_
      refine Sy.calm rfl rfl (Cm.loadM (cs := encN (nFb kb)) agg35 rfl (fun H hH j v hj => cellsF hH.2.2 0 rfl j v hj)) rfl ?_
      refine Sy.alt ?_ ?_
      ·
        refine Sy.eff rfl rfl (Sl.lit1 (enc := strE) (u := ([97] : List UInt8)) sl29 rfl rfl rfl ?_)
        intro v1 hA1 hs_1 hf_1
        have hG1 := hG0.trans hf_1
        obtain ⟨kw, ekw⟩ : ∃ g, g = v0.heap.size := ⟨_, rfl⟩
        rw [← ekw] at hA1 ⊢
        refine Sy.on (by exact ⟨hG1.obj hr8 id, hG1.obj ha8 id, hG1.obj hb8 id⟩) ?_
        refine Sy.alt ?_ ?_
        ·
          refine Sy.eff rfl rfl (Sl.call fn29 rfl (at_ok (some ⟨kw, 0, none⟩) 1 4 [[97]] v1 hA1.vw) rfl ?_)
          rintro _ v2 ⟨rfl, hf_2⟩
          have hG2 := hG1.trans hf_2
          have hA2 := hA1.grow hf_2
          refine Sy.on (by exact ⟨hG2.obj hr8 id, hG2.obj ha8 id, hG2.obj hb8 id⟩) ?_
          refine Sy.alt ?_ ?_
          ·
            refine Sy.eff rfl rfl (Sl.litG sl25 (cs := (encN r9 ++ encN (nW kw)).toArray) zc35 rfl rfl rfl (by kernel_rfl) rfl ?_)
            intro v3 hq_3 hs_3 hf_3
            have hG3 := hG2.trans hf_3
            have hA3 := hA2.grow hf_3
            obtain ⟨g1, eg1⟩ : ∃ g, g = v2.heap.size := ⟨_, rfl⟩
            rw [← eg1] at hq_3 ⊢
            have hP3 : OwnM 10 encN 35 v3.heap (some ⟨g1, 0, none⟩) 2 [r9, nW kw] := ownM_new (xs := [r9, nW kw]) encN_cells (by simpa using hq_3) (by show 2 ≤ maxLen; decide)
            refine Sy.on (by exact ⟨hG3.obj hr8 id, hG3.obj ha8 id, hG3.obj hb8 id⟩) ?_
            refine Sy.alt ?_ ?_
            ·
              refine Sy.eff rfl rfl (Sl.litG sl25 (cs := (encN r9 ++ encN (nFa ka) ++ encN (nFb kb)).toArray) zc35 rfl rfl rfl (by kernel_rfl) rfl ?_)
              intro v4 hq_4 hs_4 hf_4
              have hG4 := hG3.trans hf_4
              have hA4 := hA3.grow hf_4
              have hP4 := hP3.grow hf_4
              obtain ⟨g2, eg2⟩ : ∃ g, g = v3.heap.size := ⟨_, rfl⟩
              rw [← eg2] at hq_4 ⊢
              have hQ4 : OwnM 10 encN 35 v4.heap (some ⟨g2, 0, none⟩) 3 [r9, nFa ka, nFb kb] := ownM_new (xs := [r9, nFa ka, nFb kb]) encN_cells (by simpa using hq_4) (by show 3 ≤ maxLen; decide)
              refine Sy.on (by exact ⟨hG4.obj hr8 id, hG4.obj ha8 id, hG4.obj hb8 id⟩) ?_
              refine Sy.alt ?_ ?_
              ·
                refine Sy.eff rfl rfl (Sl.lit2 (enc := hd) (u := (⟨some ⟨g1, 0, none⟩, 2, 2⟩ : Hd)) (u' := ⟨some ⟨g2, 0, none⟩, 3, 3⟩) sl22 hd_one rfl rfl rfl ?_)
                intro v5 hL5 hs_5 hf_5
                have hG5 := hG4.trans hf_5
                have hA5 := hA4.grow hf_5
                have hP5 := hP4.grow hf_5
                have hQ5 := hQ4.grow hf_5
                obtain ⟨gl, egl⟩ : ∃ g, g = v4.heap.size := ⟨_, rfl⟩
                rw [← egl] at hL5 ⊢
                refine Sy.on (by exact ⟨hG5.obj hr8 id, hG5.obj ha8 id, hG5.obj hb8 id⟩) ?_
                refine Sy.alt ?_ ?_
                ·
                  refine Sy.eff rfl rfl (Sl.call fn12 rfl (merge_ok (D := fun _ => True) (some ⟨gl, 0, none⟩) 2 [⟨some ⟨g1, 0, none⟩, 2, 2⟩, ⟨some ⟨g2, 0, none⟩, 3, 3⟩] [[r9, nW kw], [r9, nFa ka, nFb kb]] v5 (lys2 hL5 ⟨hP5.vw encN_cells, by simp only [List.mem_cons, List.not_mem_nil, or_false]; rintro p (rfl | rfl); exact r9_v _; exact nA_v hA5.vw rfl _ _ _⟩ ⟨hQ5.vw encN_cells, by simp only [List.mem_cons, List.not_mem_nil, or_false]; rintro p (rfl | rfl | rfl); exact r9_v _; exact nA_v (hka8.grow hG5).vw rfl _ _ _; exact nA_v (hkb8.grow hG5).vw rfl _ _ _⟩ rfl rfl) (gdA2 (gdW _) (gdF _ _)) (by show (2 : Nat) ≤ 1000; decide) (by show (5 : Nat) ≤ 100000; decide)) rfl ?_)
                  rintro _ v6 ⟨ox, cx, zx, rfl, hx, hxn, hxv, hxf, hf_6⟩
                  have hG6 := hG5.trans hf_6
                  have hA6 := hA5.grow hf_6
                  have hP6 := hP5.grow hf_6
                  have hQ6 := hQ5.grow hf_6
                  have hL6 := hL5.grow hf_6
                  refine Sy.on (by exact ⟨hG6.obj hr8 id, hG6.obj ha8 id, hG6.obj hb8 id⟩) ?_
                  refine Sy.calm rfl rfl (Cm.assign rfl) rfl ?_
                  refine Sy.nil ?_
                  exact At.cut ⟨ox, cx, zx⟩ ⟨rfl, rfl, rfl, rfl, trivial⟩ ⟨hx, hxn.trans (exX _ _ _), fun z hz => (hxv z hz).mono (fun _ _ => trivial), hG6⟩
                exact Sy.stop
              exact Sy.stop
            exact Sy.stop
          refine Sy.alt ?_ ?_
          ·
            refine Sy.eff rfl rfl (Sl.litG sl25 (cs := (encN r9 ++ encN (nFa ka) ++ encN (nFb kb)).toArray) zc35 rfl rfl rfl (by kernel_rfl) rfl ?_)
            intro v3 hq_3 hs_3 hf_3
            have hG3 := hG2.trans hf_3
            have hA3 := hA2.grow hf_3
            obtain ⟨g2, eg2⟩ : ∃ g, g = v2.heap.size := ⟨_, rfl⟩
            rw [← eg2] at hq_3 ⊢
            have hQ3 : OwnM 10 encN 35 v3.heap (some ⟨g2, 0, none⟩) 3 [r9, nFa ka, nFb kb] := ownM_new (xs := [r9, nFa ka, nFb kb]) encN_cells (by simpa using hq_3) (by show 3 ≤ maxLen; decide)
            refine Sy.on (by exact ⟨hG3.obj hr8 id, hG3.obj ha8 id, hG3.obj hb8 id⟩) ?_
            refine Sy.alt ?_ ?_
            ·
              refine Sy.eff rfl rfl (Sl.litG sl25 (cs := (encN r9 ++ encN (nW kw)).toArray) zc35 rfl rfl rfl (by kernel_rfl) rfl ?_)
              intro v4 hq_4 hs_4 hf_4
              have hG4 := hG3.trans hf_4
              have hA4 := hA3.grow hf_4
              have hQ4 := hQ3.grow hf_4
              obtain ⟨g1, eg1⟩ : ∃ g, g = v3.heap.size := ⟨_, rfl⟩
              rw [← eg1] at hq_4 ⊢
              have hP4 : OwnM 10 encN 35 v4.heap (some ⟨g1, 0, none⟩) 2 [r9, nW kw] := ownM_new (xs := [r9, nW kw]) encN_cells (by simpa using hq_4) (by show 2 ≤ maxLen; decide)
              refine Sy.on (by exact ⟨hG4.obj hr8 id, hG4.obj ha8 id, hG4.obj hb8 id⟩) ?_
              refine Sy.alt ?_ ?_
              ·
                refine Sy.eff rfl rfl (Sl.lit2 (enc := hd) (u := (⟨some ⟨g1, 0, none⟩, 2, 2⟩ : Hd)) (u' := ⟨some ⟨g2, 0, none⟩, 3, 3⟩) sl22 hd_one rfl rfl rfl ?_)
                intro v5 hL5 hs_5 hf_5
                have hG5 := hG4.trans hf_5
                have hA5 := hA4.grow hf_5
                have hQ5 := hQ4.grow hf_5
                have hP5 := hP4.grow hf_5
                obtain ⟨gl, egl⟩ : ∃ g, g = v4.heap.size := ⟨_, rfl⟩
                rw [← egl] at hL5 ⊢
                refine Sy.on (by exact ⟨hG5.obj hr8 id, hG5.obj ha8 id, hG5.obj hb8 id⟩) ?_
                refine Sy.alt ?_ ?_
                ·
                  refine Sy.eff rfl rfl (Sl.call fn12 rfl (merge_ok (D := fun _ => True) (some ⟨gl, 0, none⟩) 2 [⟨some ⟨g1, 0, none⟩, 2, 2⟩, ⟨some ⟨g2, 0, none⟩, 3, 3⟩] [[r9, nW kw], [r9, nFa ka, nFb kb]] v5 (lys2 hL5 ⟨hP5.vw encN_cells, by simp only [List.mem_cons, List.not_mem_nil, or_false]; rintro p (rfl | rfl); exact r9_v _; exact nA_v hA5.vw rfl _ _ _⟩ ⟨hQ5.vw encN_cells, by simp only [List.mem_cons, List.not_mem_nil, or_false]; rintro p (rfl | rfl | rfl); exact r9_v _; exact nA_v (hka8.grow hG5).vw rfl _ _ _; exact nA_v (hkb8.grow hG5).vw rfl _ _ _⟩ rfl rfl) (gdA2 (gdW _) (gdF _ _)) (by show (2 : Nat) ≤ 1000; decide) (by show (5 : Nat) ≤ 100000; decide)) rfl ?_)
                  rintro _ v6 ⟨ox, cx, zx, rfl, hx, hxn, hxv, hxf, hf_6⟩
                  have hG6 := hG5.trans hf_6
                  have hA6 := hA5.grow hf_6
                  have hQ6 := hQ5.grow hf_6
                  have hP6 := hP5.grow hf_6
                  have hL6 := hL5.grow hf_6
                  refine Sy.on (by exact ⟨hG6.obj hr8 id, hG6.obj ha8 id, hG6.obj hb8 id⟩) ?_
                  refine Sy.calm rfl rfl (Cm.assign rfl) rfl ?_
                  refine Sy.nil ?_
                  exact At.cut ⟨ox, cx, zx⟩ ⟨rfl, rfl, rfl, rfl, trivial⟩ ⟨hx, hxn.trans (exX _ _ _), fun z hz => (hxv z hz).mono (fun _ _ => trivial), hG6⟩
                exact Sy.stop
              exact Sy.stop
            exact Sy.stop
          exact Sy.stop
        refine Sy.alt ?_ ?_
        ·
          refine Sy.eff rfl rfl (Sl.litG sl25 (cs := (encN r9 ++ encN (nFa ka) ++ encN (nFb kb)).toArray) zc35 rfl rfl rfl (by kernel_rfl) rfl ?_)
          intro v2 hq_2 hs_2 hf_2
          have hG2 := hG1.trans hf_2
          have hA2 := hA1.grow hf_2
          obtain ⟨g2, eg2⟩ : ∃ g, g = v1.heap.size := ⟨_, rfl⟩
          rw [← eg2] at hq_2 ⊢
          have hQ2 : OwnM 10 encN 35 v2.heap (some ⟨g2, 0, none⟩) 3 [r9, nFa ka, nFb kb] := ownM_new (xs := [r9, nFa ka, nFb kb]) encN_cells (by simpa using hq_2) (by show 3 ≤ maxLen; decide)
          refine Sy.on (by exact ⟨hG2.obj hr8 id, hG2.obj ha8 id, hG2.obj hb8 id⟩) ?_
          refine Sy.alt ?_ ?_
          ·
            refine Sy.eff rfl rfl (Sl.call fn29 rfl (at_ok (some ⟨kw, 0, none⟩) 1 4 [[97]] v2 hA2.vw) rfl ?_)
            rintro _ v3 ⟨rfl, hf_3⟩
            have hG3 := hG2.trans hf_3
            have hA3 := hA2.grow hf_3
            have hQ3 := hQ2.grow hf_3
            refine Sy.on (by exact ⟨hG3.obj hr8 id, hG3.obj ha8 id, hG3.obj hb8 id⟩) ?_
            refine Sy.alt ?_ ?_
            ·
              refine Sy.eff rfl rfl (Sl.litG sl25 (cs := (encN r9 ++ encN (nW kw)).toArray) zc35 rfl rfl rfl (by kernel_rfl) rfl ?_)
              intro v4 hq_4 hs_4 hf_4
              have hG4 := hG3.trans hf_4
              have hA4 := hA3.grow hf_4
              have hQ4 := hQ3.grow hf_4
              obtain ⟨g1, eg1⟩ : ∃ g, g = v3.heap.size := ⟨_, rfl⟩
              rw [← eg1] at hq_4 ⊢
              have hP4 : OwnM 10 encN 35 v4.heap (some ⟨g1, 0, none⟩) 2 [r9, nW kw] := ownM_new (xs := [r9, nW kw]) encN_cells (by simpa using hq_4) (by show 2 ≤ maxLen; decide)
              refine Sy.on (by exact ⟨hG4.obj hr8 id, hG4.obj ha8 id, hG4.obj hb8 id⟩) ?_
              refine Sy.alt ?_ ?_
              ·
                refine Sy.eff rfl rfl (Sl.lit2 (enc := hd) (u := (⟨some ⟨g1, 0, none⟩, 2, 2⟩ : Hd)) (u' := ⟨some ⟨g2, 0, none⟩, 3, 3⟩) sl22 hd_one rfl rfl rfl ?_)
                intro v5 hL5 hs_5 hf_5
                have hG5 := hG4.trans hf_5
                have hA5 := hA4.grow hf_5
                have hQ5 := hQ4.grow hf_5
                have hP5 := hP4.grow hf_5
                obtain ⟨gl, egl⟩ : ∃ g, g = v4.heap.size := ⟨_, rfl⟩
                rw [← egl] at hL5 ⊢
                refine Sy.on (by exact ⟨hG5.obj hr8 id, hG5.obj ha8 id, hG5.obj hb8 id⟩) ?_
                refine Sy.alt ?_ ?_
                ·
                  refine Sy.eff rfl rfl (Sl.call fn12 rfl (merge_ok (D := fun _ => True) (some ⟨gl, 0, none⟩) 2 [⟨some ⟨g1, 0, none⟩, 2, 2⟩, ⟨some ⟨g2, 0, none⟩, 3, 3⟩] [[r9, nW kw], [r9, nFa ka, nFb kb]] v5 (lys2 hL5 ⟨hP5.vw encN_cells, by simp only [List.mem_cons, List.not_mem_nil, or_false]; rintro p (rfl | rfl); exact r9_v _; exact nA_v hA5.vw rfl _ _ _⟩ ⟨hQ5.vw encN_cells, by simp only [List.mem_cons, List.not_mem_nil, or_false]; rintro p (rfl | rfl | rfl); exact r9_v _; exact nA_v (hka8.grow hG5).vw rfl _ _ _; exact nA_v (hkb8.grow hG5).vw rfl _ _ _⟩ rfl rfl) (gdA2 (gdW _) (gdF _ _)) (by show (2 : Nat) ≤ 1000; decide) (by show (5 : Nat) ≤ 100000; decide)) rfl ?_)
                  rintro _ v6 ⟨ox, cx, zx, rfl, hx, hxn, hxv, hxf, hf_6⟩
                  have hG6 := hG5.trans hf_6
                  have hA6 := hA5.grow hf_6
                  have hQ6 := hQ5.grow hf_6
                  have hP6 := hP5.grow hf_6
                  have hL6 := hL5.grow hf_6
                  refine Sy.on (by exact ⟨hG6.obj hr8 id, hG6.obj ha8 id, hG6.obj hb8 id⟩) ?_
                  refine Sy.calm rfl rfl (Cm.assign rfl) rfl ?_
                  refine Sy.nil ?_
                  exact At.cut ⟨ox, cx, zx⟩ ⟨rfl, rfl, rfl, rfl, trivial⟩ ⟨hx, hxn.trans (exX _ _ _), fun z hz => (hxv z hz).mono (fun _ _ => trivial), hG6⟩
                exact Sy.stop
              exact Sy.stop
            exact Sy.stop
          exact Sy.stop
        exact Sy.stop
      refine Sy.alt ?_ ?_
      ·
        refine Sy.eff rfl rfl (Sl.litG sl25 (cs := (encN r9 ++ encN (nFa ka) ++ encN (nFb kb)).toArray) zc35 rfl rfl rfl (by kernel_rfl) rfl ?_)
        intro v1 hq_1 hs_1 hf_1
        have hG1 := hG0.trans hf_1
        obtain ⟨g2, eg2⟩ : ∃ g, g = v0.heap.size := ⟨_, rfl⟩
        rw [← eg2] at hq_1 ⊢
        have hQ1 : OwnM 10 encN 35 v1.heap (some ⟨g2, 0, none⟩) 3 [r9, nFa ka, nFb kb] := ownM_new (xs := [r9, nFa ka, nFb kb]) encN_cells (by simpa using hq_1) (by show 3 ≤ maxLen; decide)
        refine Sy.on (by exact ⟨hG1.obj hr8 id, hG1.obj ha8 id, hG1.obj hb8 id⟩) ?_
        refine Sy.alt ?_ ?_
        ·
          refine Sy.eff rfl rfl (Sl.lit1 (enc := strE) (u := ([97] : List UInt8)) sl29 rfl rfl rfl ?_)
          intro v2 hA2 hs_2 hf_2
          have hG2 := hG1.trans hf_2
          have hQ2 := hQ1.grow hf_2
          obtain ⟨kw, ekw⟩ : ∃ g, g = v1.heap.size := ⟨_, rfl⟩
          rw [← ekw] at hA2 ⊢
          refine Sy.on (by exact ⟨hG2.obj hr8 id, hG2.obj ha8 id, hG2.obj hb8 id⟩) ?_
          refine Sy.alt ?_ ?_
          ·
            refine Sy.eff rfl rfl (Sl.call fn29 rfl (at_ok (some ⟨kw, 0, none⟩) 1 4 [[97]] v2 hA2.vw) rfl ?_)
            rintro _ v3 ⟨rfl, hf_3⟩
            have hG3 := hG2.trans hf_3
            have hQ3 := hQ2.grow hf_3
            have hA3 := hA2.grow hf_3
            refine Sy.on (by exact ⟨hG3.obj hr8 id, hG3.obj ha8 id, hG3.obj hb8 id⟩) ?_
            refine Sy.alt ?_ ?_
            ·
              refine Sy.eff rfl rfl (Sl.litG sl25 (cs := (encN r9 ++ encN (nW kw)).toArray) zc35 rfl rfl rfl (by kernel_rfl) rfl ?_)
              intro v4 hq_4 hs_4 hf_4
              have hG4 := hG3.trans hf_4
              have hQ4 := hQ3.grow hf_4
              have hA4 := hA3.grow hf_4
              obtain ⟨g1, eg1⟩ : ∃ g, g = v3.heap.size := ⟨_, rfl⟩
              rw [← eg1] at hq_4 ⊢
              have hP4 : OwnM 10 encN 35 v4.heap (some ⟨g1, 0, none⟩) 2 [r9, nW kw] := ownM_new (xs := [r9, nW kw]) encN_cells (by simpa using hq_4) (by show 2 ≤ maxLen; decide)
              refine Sy.on (by exact ⟨hG4.obj hr8 id, hG4.obj ha8 id, hG4.obj hb8 id⟩) ?_
              refine Sy.alt ?_ ?_
              ·
                refine Sy.eff rfl rfl (Sl.lit2 (enc := hd) (u := (⟨some ⟨g1, 0, none⟩, 2, 2⟩ : Hd)) (u' := ⟨some ⟨g2, 0, none⟩, 3, 3⟩) sl22 hd_one rfl rfl rfl ?_)
                intro v5 hL5 hs_5 hf_5
                have hG5 := hG4.trans hf_5
                have hQ5 := hQ4.grow hf_5
                have hA5 := hA4.grow hf_5
                have hP5 := hP4.grow hf_5
                obtain ⟨gl, egl⟩ : ∃ g, g = v4.heap.size := ⟨_, rfl⟩
                rw [← egl] at hL5 ⊢
                refine Sy.on (by exact ⟨hG5.obj hr8 id, hG5.obj ha8 id, hG5.obj hb8 id⟩) ?_
                refine Sy.alt ?_ ?_
                ·
                  refine Sy.eff rfl rfl (Sl.call fn12 rfl (merge_ok (D := fun _ => True) (some ⟨gl, 0, none⟩) 2 [⟨some ⟨g1, 0, none⟩, 2, 2⟩, ⟨some ⟨g2, 0, none⟩, 3, 3⟩] [[r9, nW kw], [r9, nFa ka, nFb kb]] v5 (lys2 hL5 ⟨hP5.vw encN_cells, by simp only [List.mem_cons, List.not_mem_nil, or_false]; rintro p (rfl | rfl); exact r9_v _; exact nA_v hA5.vw rfl _ _ _⟩ ⟨hQ5.vw encN_cells, by simp only [List.mem_cons, List.not_mem_nil, or_false]; rintro p (rfl | rfl | rfl); exact r9_v _; exact nA_v (hka8.grow hG5).vw rfl _ _ _; exact nA_v (hkb8.grow hG5).vw rfl _ _ _⟩ rfl rfl) (gdA2 (gdW _) (gdF _ _)) (by show (2 : Nat) ≤ 1000; decide) (by show (5 : Nat) ≤ 100000; decide)) rfl ?_)
                  rintro _ v6 ⟨ox, cx, zx, rfl, hx, hxn, hxv, hxf, hf_6⟩
                  have hG6 := hG5.trans hf_6
                  have hQ6 := hQ5.grow hf_6
                  have hA6 := hA5.grow hf_6
                  have hP6 := hP5.grow hf_6
                  have hL6 := hL5.grow hf_6
                  refine Sy.on (by exact ⟨hG6.obj hr8 id, hG6.obj ha8 id, hG6.obj hb8 id⟩) ?_
                  refine Sy.calm rfl rfl (Cm.assign rfl) rfl ?_
                  refine Sy.nil ?_
                  exact At.cut ⟨ox, cx, zx⟩ ⟨rfl, rfl, rfl, rfl, trivial⟩ ⟨hx, hxn.trans (exX _ _ _), fun z hz => (hxv z hz).mono (fun _ _ => trivial), hG6⟩
                exact Sy.stop
              exact Sy.stop
            exact Sy.stop
          exact Sy.stop
        exact Sy.stop
      exact Sy.stop
    ·
      rintro ⟨ox, cx, zx⟩ w9 ⟨hx9, hxn, hxv9, hF89⟩
      have hr9 := hF89.obj hr8 id
      have hh9 := hF89.obj hh8 id
      have hkh9 := hkh8.grow hF89
      have hC9 := hC8.grow hF89
      have hga9 := hga8.grow hF89
      have hgb9 := hgb8.grow hF89
      refine Sc.seq ?_
      refine Sc.draw 8 (fun H => H[gr]? = some (.cells (encN r9).toArray 35 (0, 0))) [1, 2, 3, 5, 6] [0, 4, 1, 2, 3, 5, 6, 7] mixed (by kernel_rfl) (hr9) ?_
      refine Sx.calm rfl rfl (Cm.loadM (cs := encN r9) agg35 rfl (fun H hH j v hj => cellsF hH 0 rfl j v hj)) rfl ?_
      refine Sx.calm rfl rfl (Cm.move rfl) rfl ?_
      refine Sx.eff rfl rfl (Sl.lit1 (enc := strE) (u := ([100] : List UInt8)) sl29 rfl rfl rfl ?_)
      intro a1 hA1 hsa1 hfa1
      have hfa1 := hfa1.undraw
      obtain ⟨kd, ekd⟩ : ∃ g, g = w9.heap.size := ⟨_, rfl⟩
      rw [show (w9.drewN 1).heap.size = kd from ekd.symm] at hA1 ⊢
      refine Sx.on (by exact (hfa1.obj hr9 id)) ?_
      refine Sx.eff rfl rfl (Sl.call fn29 rfl (at_ok (some ⟨kd, 0, none⟩) 1 1 [[100]] a1 hA1.vw) rfl ?_)
      rintro _ a2 ⟨rfl, hfa2⟩
      refine Sx.on (by exact ((hfa1.trans hfa2).obj hr9 id)) ?_
      refine Sx.eff rfl rfl (Sl.litG sl25 (cs := (encN r9 ++ encN (nD kd)).toArray) zc35 rfl rfl rfl (by kernel_rfl) rfl ?_)
      intro a3 hq3 hsa3 hfa3
      obtain ⟨g1, eg1⟩ : ∃ g, g = a2.heap.size := ⟨_, rfl⟩
      rw [← eg1] at hq3 ⊢
      have hP3 : OwnM 10 encN 35 a3.heap (some ⟨g1, 0, none⟩) 2 [r9, nD kd] := ownM_new (xs := [r9, nD kd]) encN_cells (by simpa using hq3) (by show 2 ≤ maxLen; decide)
      have hfa13 := (hfa1.trans hfa2).trans hfa3
      refine Sx.on (by exact (hfa13.obj hr9 id)) ?_
      refine Sx.eff rfl rfl (Sl.lit2 (enc := hd) (u := (⟨some ⟨g1, 0, none⟩, 2, 2⟩ : Hd)) (u' := ⟨some ⟨gc, 0, none⟩, 3, 3⟩) sl22 hd_one rfl rfl rfl ?_)
      intro a4 hL4 hsa4 hfa4
      obtain ⟨gl, egl⟩ : ∃ g, g = a3.heap.size := ⟨_, rfl⟩
      rw [← egl] at hL4 ⊢
      have hf94 := hfa13.trans hfa4
      refine Sx.on (by exact (hf94.obj hr9 id)) ?_
      refine Sx.eff rfl rfl (Sl.call fn12 rfl (merge_ok (D := fun _ => True) (some ⟨gl, 0, none⟩) 2 [⟨some ⟨g1, 0, none⟩, 2, 2⟩, ⟨some ⟨gc, 0, none⟩, 3, 3⟩] [[r9, nD kd], [r9, nD ga, nF gb]] a4 (lys2 hL4 ⟨(hP3.grow hfa4).vw encN_cells, by simp only [List.mem_cons, List.not_mem_nil, or_false]; rintro p (rfl | rfl); exact r9_v _; exact nA_v (((hA1.grow hfa2).grow hfa3).grow hfa4).vw rfl _ _ _⟩ ⟨(hC9.grow hf94).vw encN_cells, by simp only [List.mem_cons, List.not_mem_nil, or_false]; rintro p (rfl | rfl | rfl); exact r9_v _; exact nA_v (hga9.grow hf94).vw rfl _ _ _; exact nA_v (hgb9.grow hf94).vw rfl _ _ _⟩ rfl rfl) (gdA2 (gdD _ _) (gdL _ _)) (by show (2 : Nat) ≤ 1000; decide) (by show (5 : Nat) ≤ 100000; decide)) rfl ?_)
      rintro _ a5 ⟨oy, cy, zy, rfl, hy, hyn, hyv, hyf, hfa5⟩
      have hf95 := hf94.trans hfa5
      refine Sx.on (by exact (hf95.obj hr9 id)) ?_
      have hyn := hyn.trans (exY _ _ _)
      have hr5 := hf95.obj hr9 id
      have hh5 := hf95.obj hh9 id
      have hkh5 := hkh9.grow hf95
      have hC5 := hC9.grow hf95
      have hga5 := hga9.grow hf95
      have hgb5 := hgb9.grow hf95
      have hx5 := hx9.grow hf95
      refine Sx.calm rfl rfl (Cm.assign rfl) rfl ?_
      refine Sx.nil ?_
      refine At.weak [(1, _), (4, _), (5, _), (6, _), (7, _)] ⟨rfl, rfl, rfl, rfl, rfl, trivial⟩ ?_
      refine At.go ?_
      refine Sc.seq ?_
      refine Sc.region ?_
      refine Sl.calm (Cm.ldM (cs := encN r9) agg35 rfl (cellsF hr5 0 rfl)) rfl ?_
      refine Sl.calm (Cm.ldM (cs := encN (nH kh)) agg35 rfl (cellsF hh5 0 rfl)) rfl ?_
      refine Sl.litG sl25 (cs := (encN r9 ++ encN (nH kh)).toArray) zc35 rfl rfl rfl (by kernel_rfl) rfl ?_
      intro b3 hq4 hsb3 hfb3
      obtain ⟨g3, eg3⟩ : ∃ g, g = a5.heap.size := ⟨_, rfl⟩
      rw [← eg3] at hq4 ⊢
      have hP4 : OwnM 10 encN 35 b3.heap (some ⟨g3, 0, none⟩) 2 [r9, nH kh] := ownM_new (xs := [r9, nH kh]) encN_cells (by simpa using hq4) (by show 2 ≤ maxLen; decide)
      refine Sl.calm (Cm.move rfl) rfl ?_
      refine Sl.lit2 (enc := hd) (u := (⟨some ⟨g3, 0, none⟩, 2, 2⟩ : Hd)) (u' := ⟨some ⟨gc, 0, none⟩, 3, 3⟩) sl22 hd_one rfl rfl rfl ?_
      intro b4 hLb hsb4 hfb4
      obtain ⟨gm, egm⟩ : ∃ g, g = b3.heap.size := ⟨_, rfl⟩
      rw [← egm] at hLb ⊢
      have hfb34 := hfb3.trans hfb4
      refine Sl.call fn12 rfl (merge_ok (D := fun _ => True) (some ⟨gm, 0, none⟩) 2 [⟨some ⟨g3, 0, none⟩, 2, 2⟩, ⟨some ⟨gc, 0, none⟩, 3, 3⟩] [[r9, nH kh], [r9, nD ga, nF gb]] b4 (lys2 hLb ⟨(hP4.grow hfb4).vw encN_cells, by simp only [List.mem_cons, List.not_mem_nil, or_false]; rintro p (rfl | rfl); exact r9_v _; exact nA_v (hkh5.grow hfb34).vw rfl _ _ _⟩ ⟨(hC5.grow hfb34).vw encN_cells, by simp only [List.mem_cons, List.not_mem_nil, or_false]; rintro p (rfl | rfl | rfl); exact r9_v _; exact nA_v (hga5.grow hfb34).vw rfl _ _ _; exact nA_v (hgb5.grow hfb34).vw rfl _ _ _⟩ rfl rfl) (gdA2 (gdD _ _) (gdL _ _)) (by show (2 : Nat) ≤ 1000; decide) (by show (5 : Nat) ≤ 100000; decide)) rfl ?_
      rintro _ b5 ⟨oz, cz, zz, rfl, hz, hzn, hzv, hzf, hfb5⟩
      have hzn := hzn.trans (exZ _ _ _)
      have hfb35 := hfb34.trans hfb5
      have hxb := hx5.grow hfb35
      have hyb := hy.grow hfb35
      obtain ⟨x1, hx1, ex1⟩ := nds_at hxn (i := 1) rfl
      obtain ⟨y2, hy2, ey2⟩ := nds_at hyn (i := 2) rfl
      obtain ⟨z1, hz1, ez1⟩ := nds_at hzn (i := 1) rfl
      have hxl := nds_len hxn
      have hyl := nds_len hyn
      have hzl := nds_len hzn
      have hx1v := ((hxv9 x1 (List.mem_of_getElem? hx1)).grow (hf95.trans hfb35)).1
      have hy2v := ((hyv y2 (List.mem_of_getElem? hy2)).grow hfb35).1
      have hx1n : x1.2.names = [[98]] := by rw [ex1]; rfl
      have hy2n : y2.2.names = [[100], [102]] := by rw [ey2]; rfl
      have hz1o : z1.2.opq = false := by rw [ez1]; rfl
      rw [hx1n] at hx1v
      rw [hy2n] at hy2v
      have hxl2 : zx.length = 2 := hxl
      have hyl2 : zy.length = 3 := hyl
      have hzl2 : zz.length = 2 := hzl
      refine Sl.calm (Cm.assign rfl) rfl ?_
      refine Sl.nil ?_
      refine At.weak [(1, _), (4, _), (5, _), (6, _), (7, _), (8, _)] ⟨rfl, rfl, rfl, rfl, rfl, rfl, trivial⟩ ?_
      refine At.go ?_
      refine Sc.seq ?_
      refine Sc.region ?_
      refine Sl.calm (Cm.move rfl) rfl ?_
      refine Sl.calm (Cm.len sl25 rfl) rfl ?_
      refine Sl.calm (Cm.yes (Cm.eql rfl rfl) (by rw [hxl2]; rfl)) rfl ?_
      refine Sl.calm (Cm.move rfl) rfl ?_
      refine Sl.want rfl rfl (Cm.move rfl) rfl ?_
      refine Sl.want rfl rfl (Cm.indexAddr sl25 rfl rfl (hxb.vw encN_cells).non (by omega)) rfl ?_
      refine Sl.want rfl rfl (Cm.field fld35_0 rfl) rfl ?_
      refine Sl.want rfl rfl (Cm.ofEq (u := .slice x1.1.names.a 1 x1.1.names.c) (Cm.ld sca29 rfl ((hxb.vw encN_cells).rowZ 1 rfl hx1 0 _ rfl)) (by rw [show (1 : Nat) = x1.1.names.n from hx1v.1.symm]; rfl)) rfl ?_
      refine Sl.want rfl rfl (Cm.indexAddr1 sl29 rfl rfl (fun _ => hx1v.2.1.non (by simp)) (by omega)) rfl ?_
      refine Sl.want rfl rfl (Cm.ofEq (u := .string (bs [98])) (Cm.ld sca9 rfl (hx1v.2.1.get 0 [98] rfl)) rfl) rfl ?_
      refine Sl.want rfl rfl (Cm.yes (Cm.eqlBs rfl rfl) rfl) rfl ?_
      refine Sl.calm (Cm.pick_t rfl rfl) rfl ?_
      refine Sl.calm (Cm.move rfl) rfl ?_
      refine Sl.want rfl rfl (Cm.move rfl) rfl ?_
      refine Sl.want rfl rfl (Cm.len sl25 rfl) rfl ?_
      refine Sl.want rfl rfl (Cm.yes (Cm.eql rfl rfl) (by rw [hyl2]; rfl)) rfl ?_
      refine Sl.calm (Cm.pick_t rfl rfl) rfl ?_
      refine Sl.calm (Cm.move rfl) rfl ?_
      refine Sl.want rfl rfl (Cm.move rfl) rfl ?_
      refine Sl.want rfl rfl (Cm.indexAddr sl25 rfl rfl (hyb.vw encN_cells).non (by omega)) rfl ?_
      refine Sl.want rfl rfl (Cm.field fld35_0 rfl) rfl ?_
      refine Sl.want rfl rfl (Cm.ofEq (u := .slice y2.1.names.a 2 y2.1.names.c) (Cm.ld sca29 rfl ((hyb.vw encN_cells).rowZ 2 rfl hy2 0 _ rfl)) (by rw [show (2 : Nat) = y2.1.names.n from hy2v.1.symm]; rfl)) rfl ?_
      refine Sl.want rfl rfl (Cm.len sl29 rfl) rfl ?_
      refine Sl.want rfl rfl (Cm.yes (Cm.eql rfl rfl) rfl) rfl ?_
      refine Sl.calm (Cm.pick_t rfl rfl) rfl ?_
      refine Sl.calm (Cm.move rfl) rfl ?_
      refine Sl.want rfl rfl (Cm.move rfl) rfl ?_
      refine Sl.want rfl rfl (Cm.len sl25 rfl) rfl ?_
      refine Sl.want rfl rfl (Cm.yes (Cm.eql rfl rfl) (by rw [hzl2]; rfl)) rfl ?_
      refine Sl.calm (Cm.pick_t rfl rfl) rfl ?_
      refine Sl.calm (Cm.move rfl) rfl ?_
      refine Sl.want rfl rfl (Cm.move rfl) rfl ?_
      refine Sl.want rfl rfl (Cm.indexAddr sl25 rfl rfl (hz.vw encN_cells).non (by omega)) rfl ?_
      refine Sl.want rfl rfl (Cm.field fld35_7 rfl) rfl ?_
      refine Sl.want rfl rfl (Cm.ofEq (u := .bool false) (Cm.ld sca4 rfl ((hz.vw encN_cells).rowZ 1 rfl hz1 9 _ rfl)) (by rw [← hz1o])) rfl ?_
      refine Sl.want rfl rfl (Cm.not rfl) rfl ?_
      refine Sl.calm (Cm.pick_t rfl rfl) rfl ?_
      refine Sl.calm (Cm.assign rfl) rfl ?_
      refine Sl.nil ?_
      refine At.weak [(0, _), (1, _), (4, _), (5, _), (6, _), (7, _), (8, _)] ⟨rfl, rfl, rfl, rfl, rfl, rfl, rfl, trivial⟩ ?_
      refine At.go ?_
      refine Sc.ret ?_
      refine At.ret1 rfl rfl ?_
      exact ⟨_, rfl, rfl, ((hFy.trans hFy8).trans hF89).trans (hf95.trans hfb35)⟩
end Go.Proofs.Ytpamandneifemaa
