/- tree: the program's Alike. No condition beyond the bounds that each states. -/
import Derived.Test.YtpnfjfbfgaiolaaTrGk
namespace Go.Proofs.Ytpnfjfbfgaiolaa
open Go Go.RowKit
set_option linter.unusedVariables false

theorem bytesEq_ok (ao bo : Option Addr) (ac bc : Nat) (xs ys : List UInt8) (W : World) (ha : Vw b8 W.heap ao ac xs) (hb : Vw b8 W.heap bo bc ys) :
    Calls Try.prog 36 [.slice ao xs.length ac, .slice bo ys.length bc].toArray W (Ret fun v w' => v = .bool (decide (xs = ys)) ∧ w' = W) := by
  refine calls_of_sc 10 [(0, _), (1, _)] Try.func36 rfl rfl rfl (enter_slots ⟨rfl, rfl, trivial⟩) ?_
  refine Sc.seq ?_
  refine Sc.region ?_
  refine Sl.calm (Cm.assign rfl) rfl ?_
  refine Sl.nil ?_
  refine At.go ?_
  refine Sc.seq ?_
  refine Sc.region ?_
  refine Sl.calm (Cm.move rfl) rfl ?_
  refine Sl.calm (Cm.strIn sl31 ty5 ty9 rfl ha) rfl ?_
  refine Sl.calm (Cm.move rfl) rfl ?_
  refine Sl.calm (Cm.strIn sl31 ty5 ty9 rfl hb) rfl ?_
  refine Sl.calm (Cm.eqlBs rfl rfl) rfl ?_
  refine Sl.calm (Cm.assign rfl) rfl ?_
  refine Sl.nil ?_
  refine At.weak [(0, _), (1, _), (4, _)] ⟨rfl, rfl, rfl, trivial⟩ ?_
  refine At.go ?_
  refine Sc.ret ?_
  refine At.ret1 rfl rfl ?_
  exact ⟨_, rfl, rfl, rfl⟩
variable {D : Nat → Prop}
set_option maxHeartbeats 1000000 in
theorem alike1_ok (a b : Xa) (ah bh : Hd) (W : World) (ha : ByV D W.heap ah a.2) (hb : ByV D W.heap bh b.2) :
    Calls Try.prog 35 [.agg (encX (a.1, ah)).toArray, .agg (encX (b.1, bh)).toArray].toArray W (Ret fun v w' => v = .bool (decide (a = b)) ∧ Foot nob W w') := by
  refine calls_of_sc 17 [(0, _), (1, _)] Try.func35 rfl rfl rfl (enter_slots ⟨rfl, rfl, trivial⟩) ?_
  refine Sc.seq ?_
  refine Sc.region ?_
  refine Sl.box rfl rfl ?_
  intro w1 hg1 hs1 hf1
  obtain ⟨g, hg⟩ : ∃ g, g = W.heap.size := ⟨_, rfl⟩
  rw [← hg] at hg1 hs1 ⊢
  replace hg1 : w1.heap[g]? = some (.cells (encX (a.1, ah)).toArray 54 (0, 0)) := hg1
  refine Sl.box rfl rfl ?_
  intro w2 hg2 hs2 hf2
  obtain ⟨r, hr⟩ : ∃ r, r = w1.heap.size := ⟨_, rfl⟩
  rw [← hr] at hg2 hs2 ⊢
  have hgq : w2.heap[r]? = some (.cells (encX (b.1, bh)).toArray 54 (0, 0)) := hg2
  have hgp := hf2.obj hg1 id
  have hF2 := hf1.trans hf2
  have ha2 := ha.keep hF2 (fun _ _ => id)
  have hb2 := hb.keep hF2 (fun _ _ => id)
  refine Sl.calm (Cm.assign rfl) rfl ?_
  refine Sl.nil ?_
  refine At.go ?_
  refine Sc.seq ?_
  refine Sc.region ?_
  refine Sl.calm (Cm.field fld54_0 rfl) rfl ?_
  refine Sl.calm (Cm.ld sca9 rfl (by first | exact cellF hgp rfl | exact cellF hgq rfl)) rfl ?_
  refine Sl.calm (Cm.field fld54_0 rfl) rfl ?_
  refine Sl.calm (Cm.ld sca9 rfl (by first | exact cellF hgp rfl | exact cellF hgq rfl)) rfl ?_
  refine Sl.fork (Cm.eqlBs rfl rfl) rfl (fun h9 => ?_) (fun h9 => ?_)
  ·
    refine Sl.calm (Cm.move rfl) rfl ?_
    refine Sl.want rfl rfl (Cm.field fld54_1 rfl) rfl ?_
    refine Sl.want rfl rfl (Cm.ofEq (u := .slice ah.a a.2.length ah.c) (Cm.ld sca31 rfl (cellF hgp rfl)) (by rw [← ha2.1]; rfl)) rfl ?_
    refine Sl.want rfl rfl (Cm.field fld54_1 rfl) rfl ?_
    refine Sl.want rfl rfl (Cm.ofEq (u := .slice bh.a b.2.length bh.c) (Cm.ld sca31 rfl (cellF hgq rfl)) (by rw [← hb2.1]; rfl)) rfl ?_
    refine Sl.callWant rfl rfl fn36 rfl (bytesEq_ok _ _ _ _ _ _ w2 ha2.2.1 hb2.2.1) rfl ?_
    rintro _ w3 ⟨rfl, hw3⟩
    subst w3
    refine Sl.calm (Cm.pick_t rfl rfl) rfl ?_
    refine Sl.calm (Cm.assign rfl) rfl ?_
    refine Sl.nil ?_
    refine At.weak [(0, _), (1, _), (2, _), (3, _), (4, _)] ⟨rfl, rfl, rfl, rfl, rfl, trivial⟩ ?_
    refine At.go ?_
    refine Sc.ret ?_
    refine At.ret1 rfl rfl ?_
    first
      | exact ⟨_, rfl, congrArg _ (decide_eq_decide.2 ⟨fun e => Prod.ext h9 e, fun e => by rw [e]⟩), hF2⟩
      | exact ⟨_, rfl, by rw [decide_eq_false (show ¬ a = b from fun e => h9 (by rw [e]))], hF2⟩
  ·
    refine Sl.calm (Cm.move rfl) rfl ?_
    refine Sl.skip rfl rfl rfl rfl ?_
    refine Sl.skip rfl rfl rfl rfl ?_
    refine Sl.skip rfl rfl rfl rfl ?_
    refine Sl.skip rfl rfl rfl rfl ?_
    refine Sl.skip rfl rfl rfl rfl ?_
    refine Sl.calm (Cm.pick_f rfl rfl) rfl ?_
    refine Sl.calm (Cm.assign rfl) rfl ?_
    refine Sl.nil ?_
    refine At.weak [(0, _), (1, _), (2, _), (3, _), (4, _)] ⟨rfl, rfl, rfl, rfl, rfl, trivial⟩ ?_
    refine At.go ?_
    refine Sc.ret ?_
    refine At.ret1 rfl rfl ?_
    first
      | exact ⟨_, rfl, congrArg _ (decide_eq_decide.2 ⟨fun e => Prod.ext h9 e, fun e => by rw [e]⟩), hF2⟩
      | exact ⟨_, rfl, by rw [decide_eq_false (show ¬ a = b from fun e => h9 (by rw [e]))], hF2⟩
set_option maxHeartbeats 2000000 in
theorem equalFunc_ok (xh yh : Hd) (X Y : List Xa) (W : World) (hx : XsV D W.heap xh X) (hy : XsV D W.heap yh Y) :
    Calls Try.prog 37 [hd xh, hd yh, .func (.func 35) #[] #[]].toArray W (Ret fun v w' => v = .bool (decide (X = Y)) ∧ Foot nob W w') := by
  obtain ⟨hxl, ys, hyv, hyl, hyd, hyx⟩ := hx
  obtain ⟨hwl, zs, hzv, hzl, hzd, hzx⟩ := hy
  have hx63 := hyv.len63
  refine calls_of_sc 32 [(0, _), (1, _), (2, _)] Try.func37 rfl rfl rfl (enter_slots ⟨rfl, rfl, rfl, trivial⟩) ?_
  refine Sc.seq ?_
  refine Sc.region ?_
  refine Sl.calm (Cm.assign rfl) rfl ?_
  refine Sl.nil ?_
  refine At.go ?_
  refine Sc.seq ?_
  refine Sc.seq ?_
  refine Sc.region ?_
  refine Sl.calm (Cm.move rfl) rfl ?_
  refine Sl.calm (Cm.len sl32 rfl) rfl ?_
  rw [hxl]
  refine Sl.calm (Cm.move rfl) rfl ?_
  refine Sl.calm (Cm.len sl32 rfl) rfl ?_
  rw [hwl]
  refine Sl.fork (Cm.neq rfl rfl) rfl (fun h14 => ?_) (fun h14 => ?_)
  ·
    refine Sl.nil ?_
    refine At.weak [(0, _), (1, _), (2, _), (6, _), (14, _)] ⟨rfl, rfl, rfl, rfl, rfl, trivial⟩ ?_
    refine At.go ?_
    refine Sc.cond_t rfl ?_
    refine Sc.seq ?_
    refine Sc.region ?_
    refine Sl.calm (Cm.assign rfl) rfl ?_
    refine Sl.nil ?_
    refine At.go ?_
    refine Sc.ret ?_
    refine At.then_ret ?_
    refine At.ret1 rfl rfl ?_
    first
      | exact ⟨_, rfl, by rw [decide_eq_false (show ¬ X = Y from fun e => h14 (by rw [e]))], Foot.refl _ _⟩
      | exact ⟨_, rfl, by rw [decide_eq_false (show ¬ X = Y from fun e => h29 (by rw [e, hbk] at hak; cases hak; rfl))], hF6.trans hf7⟩
      | exact ⟨_, rfl, by rw [decide_eq_true (show X = Y from opt_all hxe (by omega) hsame)], hF2⟩
  ·
    refine Sl.nil ?_
    refine At.weak [(0, _), (1, _), (2, _), (6, _), (14, _)] ⟨rfl, rfl, rfl, rfl, rfl, trivial⟩ ?_
    refine At.go ?_
    refine Sc.cond_f rfl ?_
    refine Sc.skip ?_
    refine At.go ?_
    refine Sc.seq ?_
    refine Sc.seq ?_
    refine Sc.region ?_
    refine Sl.calm (Cm.move rfl) rfl ?_
    refine Sl.calm (Cm.len sl32 rfl) rfl ?_
    rw [hxl]
    refine Sl.calm (Cm.move rfl) rfl ?_
    refine Sl.nil ?_
    refine At.go ?_
    refine Sc.block ?_
    have hxe : X.length = Y.length := by omega
    refine Sc.loop (β := Nat) (fun k => [(0, hd xh), (1, hd yh), (2, .func (.func 35) #[] #[]), (15, hd xh), (16, .int .i64 X.length), (17, .int .i64 k)]) (fun k w => k ≤ X.length ∧ (∀ j : Nat, j < k → X[j]? = Y[j]?) ∧ Foot nob W w) (fun k => X.length - k) 0 ⟨rfl, rfl, rfl, rfl, rfl, rfl, trivial⟩ ⟨Nat.zero_le _, fun j hj => by omega, Foot.refl _ _⟩ ?_
    rintro k w2 ⟨hk, hsame, hF2⟩
    refine Sc.seq ?_
    refine Sc.region ?_
    refine Sl.fork (Cm.lss rfl rfl) rfl (fun h18 => ?_) (fun h18 => ?_)
    ·
      have hkx : k < X.length := by omega
      obtain ⟨a, ah, hak, hyk, hva⟩ := XsV.at (D := D) (H := w2.heap) (h := xh) hyl (fun i x y h1 h2 => ⟨(hyx i x y h1 h2).1, (hyx i x y h1 h2).2.keep hF2 (fun _ _ => id)⟩) hkx
      obtain ⟨b, bh, hbk, hzk, hvb⟩ := XsV.at (D := D) (H := w2.heap) (h := yh) hzl (fun i x y h1 h2 => ⟨(hzx i x y h1 h2).1, (hzx i x y h1 h2).2.keep hF2 (fun _ _ => id)⟩) (by omega : k < Y.length)
      have hyv3 := hyv.keep' hF2 (fun _ _ _ => id)
      have hzv3 := hzv.keep' hF2 (fun _ _ _ => id)
      refine Sl.nil ?_
      refine At.go ?_
      refine Sc.seq ?_
      refine Sc.cond_t rfl ?_
      refine Sc.skip ?_
      refine At.go ?_
      refine Sc.seq ?_
      refine Sc.block ?_
      refine Sc.seq ?_
      refine Sc.region ?_
      refine Sl.calm (Cm.move rfl) rfl ?_
      refine Sl.calm (Cm.indexAddr sl32 rfl rfl (by rw [hxl, ← hyl]; exact hyv3.non) (by omega)) rfl ?_
      refine Sl.calm (Cm.ldM (cs := encX (a.1, ah)) agg54 rfl (fun j v hj => hyv3.rowZ k rfl hyk j v hj)) rfl ?_
      refine Sl.allocC zc54 rfl ?_
      intro w3 hg3 hs3 hf3
      obtain ⟨q, hq⟩ : ∃ q, q = w2.heap.size := ⟨_, rfl⟩
      rw [← hq] at hg3 ⊢
      refine Sl.calm (Cm.assign rfl) rfl ?_
      refine Sl.storeAll (vs := encX (a.1, ah)) agg54 rfl rfl (encX_cells (a.1, ah)).2 hg3 rfl ?_
      intro w4 hg4 hs4 hf4
      have hf24 : Foot nob w2 w4 := hf3.trans_to hf4 (fun k e => .inr (by have e : k = q := e; omega))
      have hzv4 := hzv3.keep' hf24 (fun _ _ _ => id)
      refine Sl.nil ?_
      refine At.weak [(0, _), (1, _), (2, _), (7, _), (8, _), (15, _), (16, _), (17, _), (18, _)] ⟨rfl, rfl, rfl, rfl, rfl, rfl, rfl, rfl, rfl, trivial⟩ ?_
      refine At.go ?_
      refine Sc.seq ?_
      refine Sc.region ?_
      refine Sl.calm (Cm.move rfl) rfl ?_
      refine Sl.calm (Cm.move rfl) rfl ?_
      refine Sl.calm (Cm.indexAddr sl32 rfl rfl (by rw [hwl, ← hzl]; exact hzv4.non) (by omega)) rfl ?_
      refine Sl.calm (Cm.ldM (cs := encX (b.1, bh)) agg54 rfl (fun j v hj => hzv4.rowZ k rfl hzk j v hj)) rfl ?_
      refine Sl.allocC zc54 rfl ?_
      intro w5 hg5 hs5 hf5
      obtain ⟨r, hr⟩ : ∃ r, r = w4.heap.size := ⟨_, rfl⟩
      rw [← hr] at hg5 ⊢
      refine Sl.storeAll (vs := encX (b.1, bh)) agg54 rfl rfl (encX_cells (b.1, bh)).2 hg5 rfl ?_
      intro w6 hg6 hs6 hf6
      have hf46 : Foot nob w4 w6 := hf5.trans_to hf6 (fun k e => .inr (by have e : k = r := e; omega))
      have hg64 := hf46.obj hg4 id
      have hf26 := hf24.trans hf46
      have hF6 := hF2.trans hf26
      refine Sl.nil ?_
      refine At.weak [(0, _), (1, _), (2, _), (7, _), (8, _), (9, _), (15, _), (16, _), (17, _), (18, _)] ⟨rfl, rfl, rfl, rfl, rfl, rfl, rfl, rfl, rfl, rfl, trivial⟩ ?_
      refine At.go ?_
      refine Sc.seq ?_
      refine Sc.region ?_
      refine Sl.calm (Cm.move rfl) rfl ?_
      refine Sl.calm (Cm.ldM (cs := encX (a.1, ah)) agg54 rfl (cellsF hg64 0 rfl)) rfl ?_
      refine Sl.calm (Cm.ldM (cs := encX (b.1, bh)) agg54 rfl (cellsF hg6 0 rfl)) rfl ?_
      refine Sl.callV fn35 rfl rfl (alike1_ok a b ah bh w6 (hva.keep hf26 (fun _ _ => id)) (hvb.keep hf26 (fun _ _ => id))) rfl ?_
      rintro _ w7 ⟨rfl, hf7⟩
      by_cases h29 : a = b
      ·
        rw [decide_eq_true h29]
        refine Sl.calm (Cm.not rfl) rfl ?_
        refine Sl.nil ?_
        refine At.weak [(0, _), (1, _), (2, _), (7, _), (8, _), (9, _), (15, _), (16, _), (17, _), (18, _), (30, _)] ⟨rfl, rfl, rfl, rfl, rfl, rfl, rfl, rfl, rfl, rfl, rfl, trivial⟩ ?_
        refine At.go ?_
        refine Sc.cond_f rfl ?_
        refine Sc.skip ?_
        refine At.block_normal ?_
        refine At.go ?_
        refine Sc.region ?_
        refine Sl.calm (Cm.add64 rfl rfl (by omega)) rfl ?_
        refine Sl.calm (Cm.move rfl) rfl ?_
        refine Sl.nil ?_
        refine At.again (k + 1) ⟨rfl, rfl, rfl, rfl, rfl, rfl, trivial⟩ ⟨by omega, fun j hj => ?_, hF6.trans hf7⟩ (by show X.length - (k + 1) < X.length - k; omega)
        by_cases e : j = k
        · subst e; rw [hak, hbk, h29]
        · exact hsame j (by omega)
      ·
        rw [decide_eq_false h29]
        refine Sl.calm (Cm.not rfl) rfl ?_
        refine Sl.nil ?_
        refine At.weak [(0, _), (1, _), (2, _), (7, _), (8, _), (9, _), (15, _), (16, _), (17, _), (18, _), (30, _)] ⟨rfl, rfl, rfl, rfl, rfl, rfl, rfl, rfl, rfl, rfl, rfl, trivial⟩ ?_
        refine At.go ?_
        refine Sc.cond_t rfl ?_
        refine Sc.seq ?_
        refine Sc.region ?_
        refine Sl.calm (Cm.assign rfl) rfl ?_
        refine Sl.nil ?_
        refine At.go ?_
        refine Sc.ret ?_
        refine At.block_ret ?_
        refine At.then_ret ?_
        refine At.then_ret ?_
        refine At.block_ret ?_
        refine At.then_ret ?_
        refine At.ret1 rfl rfl ?_
        first
          | exact ⟨_, rfl, by rw [decide_eq_false (show ¬ X = Y from fun e => h14 (by rw [e]))], Foot.refl _ _⟩
          | exact ⟨_, rfl, by rw [decide_eq_false (show ¬ X = Y from fun e => h29 (by rw [e, hbk] at hak; cases hak; rfl))], hF6.trans hf7⟩
          | exact ⟨_, rfl, by rw [decide_eq_true (show X = Y from opt_all hxe (by omega) hsame)], hF2⟩
    ·
      refine Sl.nil ?_
      refine At.go ?_
      refine Sc.seq ?_
      refine Sc.cond_f rfl ?_
      refine Sc.exit ?_
      refine At.then_exit ?_
      refine At.then_exit ?_
      refine At.block_hit ?_
      refine At.go ?_
      refine Sc.seq ?_
      refine Sc.region ?_
      refine Sl.calm (Cm.assign rfl) rfl ?_
      refine Sl.nil ?_
      refine At.go ?_
      refine Sc.ret ?_
      refine At.ret1 rfl rfl ?_
      first
        | exact ⟨_, rfl, by rw [decide_eq_false (show ¬ X = Y from fun e => h14 (by rw [e]))], Foot.refl _ _⟩
        | exact ⟨_, rfl, by rw [decide_eq_false (show ¬ X = Y from fun e => h29 (by rw [e, hbk] at hak; cases hak; rfl))], hF6.trans hf7⟩
        | exact ⟨_, rfl, by rw [decide_eq_true (show X = Y from opt_all hxe (by omega) hsame)], hF2⟩
set_option maxHeartbeats 2000000 in
theorem alike_ok (p q : NdH × Nd) (W : World) (hp : NdV D W.heap p) (hq : NdV D W.heap q) :
    Calls Try.prog 14 [.agg (encN p).toArray, .agg (encN q).toArray].toArray W (Ret fun v w' => v = .bool (decide (Alk p.2 q.2)) ∧ Foot nob W w') := by
  have no : ∀ w', ¬ Alk p.2 q.2 → Foot nob W w' → Ret (fun v w' => v = .bool (decide (Alk p.2 q.2)) ∧ Foot nob W w') (.returned (.bool false)) w' := fun w' h f => ⟨_, rfl, by rw [decide_eq_false h], f⟩
  refine calls_of_sc 47 [(0, _), (1, _)] Try.func14 rfl rfl rfl (enter_slots ⟨rfl, rfl, trivial⟩) ?_
  refine Sc.seq ?_
  refine Sc.region ?_
  refine Sl.box rfl rfl ?_
  intro w1 hg1 hs1 hf1
  obtain ⟨g, hg⟩ : ∃ g, g = W.heap.size := ⟨_, rfl⟩
  rw [← hg] at hg1 hs1 ⊢
  replace hg1 : w1.heap[g]? = some (.cells (encN p).toArray 34 (0, 0)) := hg1
  refine Sl.box rfl rfl ?_
  intro w2 hg2 hs2 hf2
  obtain ⟨r, hr⟩ : ∃ r, r = w1.heap.size := ⟨_, rfl⟩
  rw [← hr] at hg2 hs2 ⊢
  have hgq : w2.heap[r]? = some (.cells (encN q).toArray 34 (0, 0)) := hg2
  have hgp := hf2.obj hg1 id
  have hF2 := hf1.trans hf2
  have hp2 := hp.grow hF2
  have hq2 := hq.grow hF2
  refine Sl.calm (Cm.assign rfl) rfl ?_
  refine Sl.nil ?_
  refine At.go ?_
  refine Sc.seq ?_
  refine Sc.region ?_
  refine Sl.calm (Cm.assign rfl) rfl ?_
  refine Sl.nil ?_
  refine At.go ?_
  refine Sc.seq ?_
  refine Sc.region ?_
  refine Sl.calm (Cm.field fld34_2 rfl) rfl ?_
  refine Sl.calm (Cm.ld sca3 rfl (by first | exact cellF hgp rfl | exact cellF hgq rfl)) rfl ?_
  refine Sl.calm (Cm.field fld34_2 rfl) rfl ?_
  refine Sl.calm (Cm.ld sca3 rfl (by first | exact cellF hgp rfl | exact cellF hgq rfl)) rfl ?_
  refine Sl.fork (Cm.eql rfl rfl) rfl (fun h10 => ?_) (fun h10 => ?_)
  ·
    refine Sl.calm (Cm.move rfl) rfl ?_
    refine Sl.want rfl rfl (Cm.field fld34_3 rfl) rfl ?_
    refine Sl.want rfl rfl (Cm.ldM (cs := encA p.2) agg30 rfl (cellsF hgp 3 rfl)) rfl ?_
    refine Sl.want rfl rfl (Cm.field fld34_3 rfl) rfl ?_
    refine Sl.want rfl rfl (Cm.ldM (cs := encA q.2) agg30 rfl (cellsF hgq 3 rfl)) rfl ?_
    refine Sl.forkWant rfl rfl (Cm.eqlA3 stA stAi stAh stAg (a := p.2.md) (b := p.2.ud) (c := p.2.gd) (a' := q.2.md) (b' := q.2.ud) (c' := q.2.gd) rfl rfl) rfl (fun h16 => ?_) (fun h16 => ?_)
    ·
      refine Sl.calm (Cm.pick_t rfl rfl) rfl ?_
      refine Sl.calm (Cm.move rfl) rfl ?_
      refine Sl.want rfl rfl (Cm.field fld34_5 rfl) rfl ?_
      refine Sl.want rfl rfl (Cm.ld sca9 rfl (by first | exact cellF hgp rfl | exact cellF hgq rfl)) rfl ?_
      refine Sl.want rfl rfl (Cm.field fld34_5 rfl) rfl ?_
      refine Sl.want rfl rfl (Cm.ld sca9 rfl (by first | exact cellF hgp rfl | exact cellF hgq rfl)) rfl ?_
      refine Sl.forkWant rfl rfl (Cm.eqlBs rfl rfl) rfl (fun h23 => ?_) (fun h23 => ?_)
      ·
        refine Sl.calm (Cm.pick_t rfl rfl) rfl ?_
        refine Sl.calm (Cm.move rfl) rfl ?_
        refine Sl.want rfl rfl (Cm.field fld34_7 rfl) rfl ?_
        refine Sl.want rfl rfl (Cm.ld sca4 rfl (by first | exact cellF hgp rfl | exact cellF hgq rfl)) rfl ?_
        refine Sl.want rfl rfl (Cm.field fld34_7 rfl) rfl ?_
        refine Sl.want rfl rfl (Cm.ld sca4 rfl (by first | exact cellF hgp rfl | exact cellF hgq rfl)) rfl ?_
        refine Sl.forkWant rfl rfl (Cm.ofBool (Cm.eqlBool ty4 rfl rfl)) rfl (fun h30 => ?_) (fun h30 => ?_)
        ·
          refine Sl.calm (Cm.pick_t rfl rfl) rfl ?_
          refine Sl.calm (Cm.move rfl) rfl ?_
          refine Sl.want rfl rfl (Cm.field fld34_4 rfl) rfl ?_
          refine Sl.want rfl rfl (Cm.ofEq (u := .slice p.1.data.a p.2.data.length p.1.data.c) (Cm.ld sca31 rfl (cellF hgp rfl)) (by rw [← hp2.2.1.1]; rfl)) rfl ?_
          refine Sl.want rfl rfl (Cm.field fld34_4 rfl) rfl ?_
          refine Sl.want rfl rfl (Cm.ofEq (u := .slice q.1.data.a q.2.data.length q.1.data.c) (Cm.ld sca31 rfl (cellF hgq rfl)) (by rw [← hq2.2.1.1]; rfl)) rfl ?_
          refine Sl.callWant rfl rfl fn36 rfl (bytesEq_ok _ _ _ _ _ _ w2 hp2.2.1.2.1 hq2.2.1.2.1) rfl ?_
          rintro _ w3 ⟨rfl, hw3⟩
          subst w3
          by_cases h37 : p.2.data = q.2.data
          ·
            rw [decide_eq_true h37]
            refine Sl.calm (Cm.pick_t rfl rfl) rfl ?_
            refine Sl.calm (Cm.move rfl) rfl ?_
            refine Sl.want rfl rfl (Cm.field fld34_6 rfl) rfl ?_
            refine Sl.want rfl rfl (Cm.ld sca32 rfl (by first | exact cellF hgp rfl | exact cellF hgq rfl)) rfl ?_
            refine Sl.want rfl rfl (Cm.field fld34_6 rfl) rfl ?_
            refine Sl.want rfl rfl (Cm.ld sca32 rfl (by first | exact cellF hgp rfl | exact cellF hgq rfl)) rfl ?_
            refine Sl.want rfl rfl (Cm.move rfl) rfl ?_
            refine Sl.callWant rfl rfl fn37 rfl (equalFunc_ok p.1.xs q.1.xs p.2.xs q.2.xs _ hp2.2.2 hq2.2.2) rfl ?_
            rintro _ w3 ⟨rfl, hf3⟩
            refine Sl.calm (Cm.pick_t rfl rfl) rfl ?_
            refine Sl.calm (Cm.assign rfl) rfl ?_
            refine Sl.nil ?_
            refine At.weak [(0, _), (1, _), (2, _), (3, _), (4, _), (5, _)] ⟨rfl, rfl, rfl, rfl, rfl, rfl, trivial⟩ ?_
            refine At.go ?_
            refine Sc.ret ?_
            refine At.ret1 rfl rfl ?_
            first
              | exact ⟨_, rfl, congrArg _ (decide_eq_decide.2 ⟨fun e => ⟨h10, h16, h23, by simpa using h30, h37, e⟩, fun A => A.2.2.2.2.2⟩), hF2.trans hf3⟩
              | exact no _ (fun A => h10 A.1) hF2
              | exact no _ (fun A => h16 A.2.1) hF2
              | exact no _ (fun A => h23 A.2.2.1) hF2
              | exact no _ (fun A => h30 (by rw [A.2.2.2.1]; exact beq_self_eq_true _)) hF2
              | exact no _ (fun A => h37 A.2.2.2.2.1) hF2
          ·
            rw [decide_eq_false h37]
            refine Sl.calm (Cm.pick_t rfl rfl) rfl ?_
            refine Sl.calm (Cm.move rfl) rfl ?_
            refine Sl.skip rfl rfl rfl rfl ?_
            refine Sl.skip rfl rfl rfl rfl ?_
            refine Sl.skip rfl rfl rfl rfl ?_
            refine Sl.skip rfl rfl rfl rfl ?_
            refine Sl.skip rfl rfl rfl rfl ?_
            refine Sl.skip rfl rfl rfl rfl ?_
            refine Sl.calm (Cm.pick_f rfl rfl) rfl ?_
            refine Sl.calm (Cm.assign rfl) rfl ?_
            refine Sl.nil ?_
            refine At.weak [(0, _), (1, _), (2, _), (3, _), (4, _), (5, _)] ⟨rfl, rfl, rfl, rfl, rfl, rfl, trivial⟩ ?_
            refine At.go ?_
            refine Sc.ret ?_
            refine At.ret1 rfl rfl ?_
            first
              | exact ⟨_, rfl, congrArg _ (decide_eq_decide.2 ⟨fun e => ⟨h10, h16, h23, by simpa using h30, h37, e⟩, fun A => A.2.2.2.2.2⟩), hF2.trans hf3⟩
              | exact no _ (fun A => h10 A.1) hF2
              | exact no _ (fun A => h16 A.2.1) hF2
              | exact no _ (fun A => h23 A.2.2.1) hF2
              | exact no _ (fun A => h30 (by rw [A.2.2.2.1]; exact beq_self_eq_true _)) hF2
              | exact no _ (fun A => h37 A.2.2.2.2.1) hF2
        ·
          refine Sl.calm (Cm.pick_t rfl rfl) rfl ?_
          refine Sl.calm (Cm.move rfl) rfl ?_
          refine Sl.skip rfl rfl rfl rfl ?_
          refine Sl.skip rfl rfl rfl rfl ?_
          refine Sl.skip rfl rfl rfl rfl ?_
          refine Sl.skip rfl rfl rfl rfl ?_
          refine Sl.skip rfl rfl rfl rfl ?_
          refine Sl.calm (Cm.pick_f rfl rfl) rfl ?_
          refine Sl.calm (Cm.move rfl) rfl ?_
          refine Sl.skip rfl rfl rfl rfl ?_
          refine Sl.skip rfl rfl rfl rfl ?_
          refine Sl.skip rfl rfl rfl rfl ?_
          refine Sl.skip rfl rfl rfl rfl ?_
          refine Sl.skip rfl rfl rfl rfl ?_
          refine Sl.skip rfl rfl rfl rfl ?_
          refine Sl.calm (Cm.pick_f rfl rfl) rfl ?_
          refine Sl.calm (Cm.assign rfl) rfl ?_
          refine Sl.nil ?_
          refine At.weak [(0, _), (1, _), (2, _), (3, _), (4, _), (5, _)] ⟨rfl, rfl, rfl, rfl, rfl, rfl, trivial⟩ ?_
          refine At.go ?_
          refine Sc.ret ?_
          refine At.ret1 rfl rfl ?_
          first
            | exact ⟨_, rfl, congrArg _ (decide_eq_decide.2 ⟨fun e => ⟨h10, h16, h23, by simpa using h30, h37, e⟩, fun A => A.2.2.2.2.2⟩), hF2.trans hf3⟩
            | exact no _ (fun A => h10 A.1) hF2
            | exact no _ (fun A => h16 A.2.1) hF2
            | exact no _ (fun A => h23 A.2.2.1) hF2
            | exact no _ (fun A => h30 (by rw [A.2.2.2.1]; exact beq_self_eq_true _)) hF2
            | exact no _ (fun A => h37 A.2.2.2.2.1) hF2
      ·
        refine Sl.calm (Cm.pick_t rfl rfl) rfl ?_
        refine Sl.calm (Cm.move rfl) rfl ?_
        refine Sl.skip rfl rfl rfl rfl ?_
        refine Sl.skip rfl rfl rfl rfl ?_
        refine Sl.skip rfl rfl rfl rfl ?_
        refine Sl.skip rfl rfl rfl rfl ?_
        refine Sl.skip rfl rfl rfl rfl ?_
        refine Sl.calm (Cm.pick_f rfl rfl) rfl ?_
        refine Sl.calm (Cm.move rfl) rfl ?_
        refine Sl.skip rfl rfl rfl rfl ?_
        refine Sl.skip rfl rfl rfl rfl ?_
        refine Sl.skip rfl rfl rfl rfl ?_
        refine Sl.skip rfl rfl rfl rfl ?_
        refine Sl.skip rfl rfl rfl rfl ?_
        refine Sl.calm (Cm.pick_f rfl rfl) rfl ?_
        refine Sl.calm (Cm.move rfl) rfl ?_
        refine Sl.skip rfl rfl rfl rfl ?_
        refine Sl.skip rfl rfl rfl rfl ?_
        refine Sl.skip rfl rfl rfl rfl ?_
        refine Sl.skip rfl rfl rfl rfl ?_
        refine Sl.skip rfl rfl rfl rfl ?_
        refine Sl.skip rfl rfl rfl rfl ?_
        refine Sl.calm (Cm.pick_f rfl rfl) rfl ?_
        refine Sl.calm (Cm.assign rfl) rfl ?_
        refine Sl.nil ?_
        refine At.weak [(0, _), (1, _), (2, _), (3, _), (4, _), (5, _)] ⟨rfl, rfl, rfl, rfl, rfl, rfl, trivial⟩ ?_
        refine At.go ?_
        refine Sc.ret ?_
        refine At.ret1 rfl rfl ?_
        first
          | exact ⟨_, rfl, congrArg _ (decide_eq_decide.2 ⟨fun e => ⟨h10, h16, h23, by simpa using h30, h37, e⟩, fun A => A.2.2.2.2.2⟩), hF2.trans hf3⟩
          | exact no _ (fun A => h10 A.1) hF2
          | exact no _ (fun A => h16 A.2.1) hF2
          | exact no _ (fun A => h23 A.2.2.1) hF2
          | exact no _ (fun A => h30 (by rw [A.2.2.2.1]; exact beq_self_eq_true _)) hF2
          | exact no _ (fun A => h37 A.2.2.2.2.1) hF2
    ·
      refine Sl.calm (Cm.pick_t rfl rfl) rfl ?_
      refine Sl.calm (Cm.move rfl) rfl ?_
      refine Sl.skip rfl rfl rfl rfl ?_
      refine Sl.skip rfl rfl rfl rfl ?_
      refine Sl.skip rfl rfl rfl rfl ?_
      refine Sl.skip rfl rfl rfl rfl ?_
      refine Sl.skip rfl rfl rfl rfl ?_
      refine Sl.calm (Cm.pick_f rfl rfl) rfl ?_
      refine Sl.calm (Cm.move rfl) rfl ?_
      refine Sl.skip rfl rfl rfl rfl ?_
      refine Sl.skip rfl rfl rfl rfl ?_
      refine Sl.skip rfl rfl rfl rfl ?_
      refine Sl.skip rfl rfl rfl rfl ?_
      refine Sl.skip rfl rfl rfl rfl ?_
      refine Sl.calm (Cm.pick_f rfl rfl) rfl ?_
      refine Sl.calm (Cm.move rfl) rfl ?_
      refine Sl.skip rfl rfl rfl rfl ?_
      refine Sl.skip rfl rfl rfl rfl ?_
      refine Sl.skip rfl rfl rfl rfl ?_
      refine Sl.skip rfl rfl rfl rfl ?_
      refine Sl.skip rfl rfl rfl rfl ?_
      refine Sl.calm (Cm.pick_f rfl rfl) rfl ?_
      refine Sl.calm (Cm.move rfl) rfl ?_
      refine Sl.skip rfl rfl rfl rfl ?_
      refine Sl.skip rfl rfl rfl rfl ?_
      refine Sl.skip rfl rfl rfl rfl ?_
      refine Sl.skip rfl rfl rfl rfl ?_
      refine Sl.skip rfl rfl rfl rfl ?_
      refine Sl.skip rfl rfl rfl rfl ?_
      refine Sl.calm (Cm.pick_f rfl rfl) rfl ?_
      refine Sl.calm (Cm.assign rfl) rfl ?_
      refine Sl.nil ?_
      refine At.weak [(0, _), (1, _), (2, _), (3, _), (4, _), (5, _)] ⟨rfl, rfl, rfl, rfl, rfl, rfl, trivial⟩ ?_
      refine At.go ?_
      refine Sc.ret ?_
      refine At.ret1 rfl rfl ?_
      first
        | exact ⟨_, rfl, congrArg _ (decide_eq_decide.2 ⟨fun e => ⟨h10, h16, h23, by simpa using h30, h37, e⟩, fun A => A.2.2.2.2.2⟩), hF2.trans hf3⟩
        | exact no _ (fun A => h10 A.1) hF2
        | exact no _ (fun A => h16 A.2.1) hF2
        | exact no _ (fun A => h23 A.2.2.1) hF2
        | exact no _ (fun A => h30 (by rw [A.2.2.2.1]; exact beq_self_eq_true _)) hF2
        | exact no _ (fun A => h37 A.2.2.2.2.1) hF2
  ·
    refine Sl.calm (Cm.move rfl) rfl ?_
    refine Sl.skip rfl rfl rfl rfl ?_
    refine Sl.skip rfl rfl rfl rfl ?_
    refine Sl.skip rfl rfl rfl rfl ?_
    refine Sl.skip rfl rfl rfl rfl ?_
    refine Sl.skip rfl rfl rfl rfl ?_
    refine Sl.calm (Cm.pick_f rfl rfl) rfl ?_
    refine Sl.calm (Cm.move rfl) rfl ?_
    refine Sl.skip rfl rfl rfl rfl ?_
    refine Sl.skip rfl rfl rfl rfl ?_
    refine Sl.skip rfl rfl rfl rfl ?_
    refine Sl.skip rfl rfl rfl rfl ?_
    refine Sl.skip rfl rfl rfl rfl ?_
    refine Sl.calm (Cm.pick_f rfl rfl) rfl ?_
    refine Sl.calm (Cm.move rfl) rfl ?_
    refine Sl.skip rfl rfl rfl rfl ?_
    refine Sl.skip rfl rfl rfl rfl ?_
    refine Sl.skip rfl rfl rfl rfl ?_
    refine Sl.skip rfl rfl rfl rfl ?_
    refine Sl.skip rfl rfl rfl rfl ?_
    refine Sl.calm (Cm.pick_f rfl rfl) rfl ?_
    refine Sl.calm (Cm.move rfl) rfl ?_
    refine Sl.skip rfl rfl rfl rfl ?_
    refine Sl.skip rfl rfl rfl rfl ?_
    refine Sl.skip rfl rfl rfl rfl ?_
    refine Sl.skip rfl rfl rfl rfl ?_
    refine Sl.skip rfl rfl rfl rfl ?_
    refine Sl.calm (Cm.pick_f rfl rfl) rfl ?_
    refine Sl.calm (Cm.move rfl) rfl ?_
    refine Sl.skip rfl rfl rfl rfl ?_
    refine Sl.skip rfl rfl rfl rfl ?_
    refine Sl.skip rfl rfl rfl rfl ?_
    refine Sl.skip rfl rfl rfl rfl ?_
    refine Sl.skip rfl rfl rfl rfl ?_
    refine Sl.skip rfl rfl rfl rfl ?_
    refine Sl.calm (Cm.pick_f rfl rfl) rfl ?_
    refine Sl.calm (Cm.assign rfl) rfl ?_
    refine Sl.nil ?_
    refine At.weak [(0, _), (1, _), (2, _), (3, _), (4, _), (5, _)] ⟨rfl, rfl, rfl, rfl, rfl, rfl, trivial⟩ ?_
    refine At.go ?_
    refine Sc.ret ?_
    refine At.ret1 rfl rfl ?_
    first
      | exact ⟨_, rfl, congrArg _ (decide_eq_decide.2 ⟨fun e => ⟨h10, h16, h23, by simpa using h30, h37, e⟩, fun A => A.2.2.2.2.2⟩), hF2.trans hf3⟩
      | exact no _ (fun A => h10 A.1) hF2
      | exact no _ (fun A => h16 A.2.1) hF2
      | exact no _ (fun A => h23 A.2.2.1) hF2
      | exact no _ (fun A => h30 (by rw [A.2.2.2.1]; exact beq_self_eq_true _)) hF2
      | exact no _ (fun A => h37 A.2.2.2.2.1) hF2
end Go.Proofs.Ytpnfjfbfgaiolaa
