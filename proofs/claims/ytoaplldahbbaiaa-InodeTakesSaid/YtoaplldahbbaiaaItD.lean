/- inode: the laws on what is taken. No condition beyond the bounds that each states. -/
import Derived.Test.YtoaplldahbbaiaaItC
namespace Go.Proofs.Ytoaplldahbbaiaa
open Go Go.RowKit
set_option linter.unusedVariables false

theorem cut300 {ao : Option Addr} {c : Nat} {b : List UInt8} (h : 300 < (b.length : Int)) : some (Value.slice (cutAo ao c 0 1) 300 c) = some (.slice ao (b.take 300).length c) := by
  rw [cutAo_zero, List.length_take, Nat.min_eq_left (by omega)]
theorem nocut300 {ao : Option Addr} {c : Nat} {b : List UInt8} (h : ¬ 300 < (b.length : Int)) : some (Value.slice ao b.length c) = some (.slice ao (b.take 300).length c) := by
  rw [List.take_of_length_le (by omega)]

set_option maxHeartbeats 1000000 in
theorem inodeTakes_ok (b0 : List UInt8) (ao0 : Option Addr) (c0 : Nat) (W : World) (hv0 : Vw b8 W.heap ao0 c0 b0) :
    Calls Try.prog 6 [.slice ao0 b0.length c0].toArray W (Ret fun v w' => v = .bool true ∧ Foot nob W w') := by
  obtain ⟨b, hb⟩ : ∃ b, b = b0.take 300 := ⟨_, rfl⟩
  have hbl : b.length ≤ 300 := by rw [hb, List.length_take]; omega
  have hv : Vw b8 W.heap ao0 c0 b := by rw [hb]; exact hv0.take 300
  have hle := hv0.le
  refine calls_of_sc 37 [(0, _)] Try.func6 rfl rfl rfl (enter_slots ⟨rfl, trivial⟩) ?_
  refine Sc.seq ?_
  refine Sc.region ?_
  refine Sl.calm (Cm.assign rfl) rfl ?_
  refine Sl.nil ?_
  refine At.go ?_
  refine Sc.seq ?_
  refine Sc.region ?_
  refine Sl.call fn20 rfl (shown09_ok W) rfl ?_
  rintro _ w2 ⟨rfl, hf2⟩
  refine Sl.calm (Cm.assign rfl) rfl ?_
  refine Sl.nil ?_
  refine At.weak [(0, _), (2, _), (3, _)] ⟨rfl, rfl, rfl, trivial⟩ ?_
  refine At.go ?_
  refine Sc.cut (β := Unit) (fun _u => [(0, .slice ao0 b.length c0), (3, .bool true)]) (fun _u w => w = w2) ?_ ?_
  ·
    refine Sc.seq ?_
    refine Sc.region ?_
    refine Sl.calm (Cm.move rfl) rfl ?_
    refine Sl.calm (Cm.len sl25 rfl) rfl ?_
    refine Sl.fork (Cm.gtr rfl rfl) rfl (fun h11 => ?_) (fun h11 => ?_)
    ·
      refine Sl.nil ?_
      refine At.weak [(0, _), (2, _), (3, _), (11, _)] ⟨rfl, rfl, rfl, rfl, trivial⟩ ?_
      refine At.go ?_
      refine Sc.cond_t rfl ?_
      refine Sc.region ?_
      refine Sl.calm (Cm.move rfl) rfl ?_
      refine Sl.calm (Cm.sliceH sl25 rfl rfl (by omega)) rfl ?_
      refine Sl.calm (Cm.assign rfl) rfl ?_
      refine Sl.nil ?_
      refine At.cut () ⟨by rw [hb]; exact cut300 (by omega), rfl, trivial⟩ rfl
    ·
      refine Sl.nil ?_
      refine At.weak [(0, _), (2, _), (3, _), (11, _)] ⟨rfl, rfl, rfl, rfl, trivial⟩ ?_
      refine At.go ?_
      refine Sc.cond_f rfl ?_
      refine Sc.skip ?_
      refine At.cut () ⟨by rw [hb]; exact nocut300 (by omega), rfl, trivial⟩ rfl
  ·
    rintro _ w2b rfl
    refine Sc.seq ?_
    refine Sc.region ?_
    refine Sl.lit0 b8 sl25 rfl ?_
    intro w3 ho3 hs3 hf3
    refine Sl.calm (Cm.move rfl) rfl ?_
    refine Sl.append b8_one sl25 rfl rfl ho3 ((hv.grow hf2).grow hf3) (by simp; omega) (by simp; unfold maxLen; omega) rfl ?_
    intro ao4 c4 w4 ho4 hf4 hr4 hn4
    rw [List.nil_append] at ho4 ⊢
    have hF4 : Foot nob W w4 := hf2.trans (hf3.trans_to hf4 (fr_at _).step)
    refine Sl.call fn25 rfl (take_ok b ao4 c4 w4 ho4.vw (by omega)) rfl ?_
    rintro _ w5 ⟨rfl, hf5⟩
    have hF5 := hF4.trans hf5
    refine Sl.calm (Cm.move rfl) rfl ?_
    refine Sl.calm (Cm.extract rfl rfl) rfl ?_
    refine Sl.calm (Cm.extract rfl rfl) rfl ?_
    refine Sl.allocC zc33 rfl ?_
    intro w6 hg6 hs6 hf6
    refine Sl.storeAll (vs := inoC (tkF b) (tkT b)) agg33 rfl rfl (by intro v hv; exact inoC_one _ _ v hv) hg6 rfl ?_
    intro w7 hg7 hs7 hf7
    have hF7 := (hF5.trans hf6).trans_to hf7 (fun k hk => .inr (by have h1 : k = w5.heap.size := hk; have := hF5.size; omega))
    refine Sl.calm (Cm.assign rfl) rfl ?_
    refine Sl.nil ?_
    refine At.weak [(0, _), (3, _), (4, _), (5, _)] ⟨rfl, rfl, rfl, rfl, trivial⟩ ?_
    refine At.go ?_
    refine Sc.seq ?_
    refine Sc.region ?_
    refine Sl.calm (Cm.move rfl) rfl ?_
    refine Sl.call fn26 rfl (rtake_ok b ao0 c0 w7 (hv.grow hF7) (by omega)) rfl ?_
    rintro _ w8 ⟨rfl, hf8⟩
    have hF8 := hF7.trans hf8
    have hg8 := hf8.obj hg7 id
    have hz7 := hf7.size
    have hz8 := hf8.size
    refine Sl.calm (Cm.move rfl) rfl ?_
    refine Sl.calm (Cm.extract rfl rfl) rfl ?_
    refine Sl.calm (Cm.extract rfl rfl) rfl ?_
    refine Sl.allocC zc33 rfl ?_
    intro w9 hg9 hs9 hf9
    refine Sl.storeAll (vs := inoC (tkF b) (tkT b)) agg33 rfl rfl (by intro v hv; exact inoC_one _ _ v hv) hg9 rfl ?_
    intro w10 hg10 hs10 hf10
    have hg10a := hf10.obj (hf9.obj hg8 id) (fun h => by have h : w5.heap.size = w8.heap.size := h; omega)
    have hF10 := (hF8.trans hf9).trans_to hf10 (fun k hk => .inr (by have h1 : k = w8.heap.size := hk; have := hF8.size; omega))
    refine Sl.calm (Cm.assign rfl) rfl ?_
    refine Sl.nil ?_
    refine At.weak [(0, _), (3, _), (4, _), (5, _), (6, _), (7, _)] ⟨rfl, rfl, rfl, rfl, rfl, rfl, trivial⟩ ?_
    refine At.go ?_
    refine Sc.seq ?_
    refine Sc.region ?_
    refine Sl.calm (Cm.move rfl) rfl ?_
    refine Sl.calm (Cm.move rfl) rfl ?_
    refine Sl.want rfl rfl (Cm.ldM (cs := inoC (tkF b) (tkT b)) agg33 rfl (fun j v hj => cellF hg10a hj)) rfl ?_
    refine Sl.want rfl rfl (Cm.ldM (cs := inoC (tkF b) (tkT b)) agg33 rfl (fun j v hj => cellF hg10 hj)) rfl ?_
    refine Sl.want rfl rfl (Cm.yes (Cm.eqlIno rfl rfl) ⟨fun _ _ => rfl, rfl⟩) rfl ?_
    refine Sl.calm (Cm.pick_t rfl rfl) rfl ?_
    refine Sl.calm (Cm.move rfl) rfl ?_
    refine Sl.want rfl rfl (Cm.move rfl) rfl ?_
    refine Sl.want rfl rfl (Cm.move rfl) rfl ?_
    refine Sl.want rfl rfl (Cm.yes (Cm.eql rfl rfl) rfl) rfl ?_
    refine Sl.calm (Cm.pick_t rfl rfl) rfl ?_
    refine Sl.calm (Cm.assign rfl) rfl ?_
    refine Sl.nil ?_
    refine At.weak [(0, _), (2, _), (3, _), (4, _), (5, _), (6, _), (7, _)] ⟨rfl, rfl, rfl, rfl, rfl, rfl, rfl, trivial⟩ ?_
    refine At.go ?_
    refine Sc.ret ?_
    refine At.ret1 rfl rfl ?_
    exact ⟨_, rfl, rfl, hF10⟩

theorem getD_dropLast {l : List UInt8} {i : Nat} (h : i + 1 < l.length) : (l.take (l.length - 1)).getD i 0 = l.getD i 0 := by
  rw [List.getD, List.getD, List.getElem?_take, if_pos (by omega)]
theorem getD_snoc {l : List UInt8} {i : Nat} {x : UInt8} (h : i < l.length) : (l ++ [x]).getD i 0 = l.getD i 0 := by
  rw [List.getD, List.getD, List.getElem?_append_left h]

set_option maxHeartbeats 1000000 in
theorem inodeBack_ok (F : Nat → Int) (T : List UInt8) (W : World) (hT : T.length ≤ maxLen) :
    Calls Try.prog 7 [.agg (inoC F T).toArray].toArray W (Ret fun v w' => v = .bool true ∧ Foot nob W w') := by
  refine calls_of_sc 85 [(0, _)] Try.func7 rfl rfl rfl (enter_slots ⟨rfl, trivial⟩) ?_
  refine Sc.seq ?_
  refine Sc.region ?_
  refine Sl.box rfl rfl ?_
  intro w1 hg1 hs1 hf1
  have hg1 : w1.heap[W.heap.size]? = some (.cells (inoC F T).toArray 33 (0, 0)) := hg1
  refine Sl.calm (Cm.assign rfl) rfl ?_
  refine Sl.nil ?_
  refine At.go ?_
  refine Sc.seq ?_
  refine Sc.region ?_
  refine Sl.call fn20 rfl (shown09_ok w1) rfl ?_
  rintro _ w2 ⟨rfl, hf2⟩
  have hp2 := hf2.obj hg1 id
  refine Sl.calm (Cm.assign rfl) rfl ?_
  refine Sl.nil ?_
  refine At.weak [(0, _), (1, _), (2, _), (3, _)] ⟨rfl, rfl, rfl, rfl, trivial⟩ ?_
  refine At.go ?_
  refine Sc.seq ?_
  refine Sc.region ?_
  refine Sl.calm (Cm.ldM (cs := inoC F T) agg33 rfl (fun j v hj => cellF hp2 hj)) rfl ?_
  refine Sl.call fn21 rfl (put_ok F T w2 hT) rfl ?_
  rintro _ w3 ⟨a3, c3, rfl, ho3, hfr3, hf3⟩
  have hp3 := hf3.obj hp2 id
  have hF3 := (hf1.trans hf2).trans hf3
  have hz3 := hF3.size
  have hz1 := hf1.size
  have hz13 := (hf2.trans hf3).size
  refine Sl.calm (Cm.move rfl) rfl ?_
  refine Sl.calm (Cm.extract rfl rfl) rfl ?_
  refine Sl.calm (Cm.extract rfl rfl) rfl ?_
  refine Sl.calm (Cm.assign rfl) rfl ?_
  refine Sl.calm (Cm.assign rfl) rfl ?_
  refine Sl.nil ?_
  refine At.weak [(0, _), (1, _), (2, _), (3, _), (4, _), (5, _)] ⟨rfl, rfl, rfl, rfl, rfl, rfl, trivial⟩ ?_
  refine At.go ?_
  refine Sc.seq ?_
  refine Sc.seq ?_
  refine Sc.region ?_
  refine Sl.calm (Cm.move rfl) rfl ?_
  refine Sl.fork (Cm.neq rfl rfl) rfl (fun h19 => ?_) (fun h19 => ?_)
  ·
    have hno : ¬ mayI F T := fun h => h19 (putI_may.2 h)
    refine Sl.calm (Cm.move rfl) rfl ?_
    refine Sl.skip rfl rfl rfl rfl ?_
    refine Sl.skip rfl rfl rfl rfl ?_
    refine Sl.skip rfl rfl rfl rfl ?_
    refine Sl.calm (Cm.pick_t rfl rfl) rfl ?_
    refine Sl.nil ?_
    refine At.weak [(0, _), (1, _), (2, _), (3, _), (4, _), (5, _), (24, _)] ⟨rfl, rfl, rfl, rfl, rfl, rfl, rfl, trivial⟩ ?_
    refine At.go ?_
    refine Sc.cond_t rfl ?_
    refine Sc.seq ?_
    refine Sc.region ?_
    refine Sl.calm (Cm.move rfl) rfl ?_
    refine Sl.calm (Cm.move rfl) rfl ?_
    refine Sl.want rfl rfl (Cm.move rfl) rfl ?_
    refine Sl.want rfl rfl (Cm.yes (Cm.eql rfl rfl) (by unfold putI; rw [if_neg hno])) rfl ?_
    refine Sl.calm (Cm.pick_t rfl rfl) rfl ?_
    refine Sl.calm (Cm.move rfl) rfl ?_
    refine Sl.want rfl rfl (Cm.move rfl) rfl ?_
    refine Sl.want rfl rfl (Cm.len sl25 rfl) rfl ?_
    refine Sl.want rfl rfl (Cm.yes (Cm.eql rfl rfl) (by unfold putI; rw [if_neg hno]; rfl)) rfl ?_
    refine Sl.calm (Cm.pick_t rfl rfl) rfl ?_
    refine Sl.calm (Cm.move rfl) rfl ?_
    refine Sl.want rfl rfl (Cm.ldM (cs := inoC F T) agg33 rfl (fun j v hj => cellF hp3 hj)) rfl ?_
    refine Sl.callWant rfl rfl fn23 rfl (may_ok F T w3 hT) rfl ?_
    rintro _ w4 ⟨rfl, hf4⟩
    refine Sl.want rfl rfl (Cm.yes (Cm.notB rfl) (decide_eq_false hno)) rfl ?_
    refine Sl.calm (Cm.pick_t rfl rfl) rfl ?_
    refine Sl.calm (Cm.assign rfl) rfl ?_
    refine Sl.nil ?_
    refine At.weak [(0, _), (1, _), (2, _), (3, _), (4, _), (5, _), (24, _)] ⟨rfl, rfl, rfl, rfl, rfl, rfl, rfl, trivial⟩ ?_
    refine At.go ?_
    refine Sc.ret ?_
    refine At.then_ret ?_
    refine At.ret1 rfl rfl ?_
    exact ⟨_, rfl, rfl, hF3.trans hf4⟩
  ·
    have hm := putI_may.1 (Decidable.not_not.1 h19)
    have hlen := rSt_len hm
    have e : (putI F T).1 = (rEnd F T).2 := putI_eq hm
    have hkind := may_kind hm
    have h9 := hm.1
    unfold mayA at h9
    have hl14 : 15 ≤ (rEnd F T).2.length ∧ (rEnd F T).2.length ≤ 300 := by split at hlen; omega; split at hlen; omega; omega
    obtain ⟨B, hB⟩ : ∃ B, B = (rEnd F T).2 := ⟨_, rfl⟩
    rw [← hB] at hl14
    rw [e, ← hB] at ho3 ⊢
    have hle3 := ho3.vw.le
    refine Sl.calm (Cm.move rfl) rfl ?_
    refine Sl.want rfl rfl (Cm.move rfl) rfl ?_
    refine Sl.want rfl rfl (Cm.len sl25 rfl) rfl ?_
    refine Sl.forkWant rfl rfl (Cm.eql rfl rfl) rfl (fun h23 => ?_) (fun h23 => ?_)
    ·
      exact absurd h23 (by omega)
    ·
      refine Sl.calm (Cm.pick_f rfl rfl) rfl ?_
      refine Sl.nil ?_
      refine At.weak [(0, _), (1, _), (2, _), (3, _), (4, _), (5, _), (24, _)] ⟨rfl, rfl, rfl, rfl, rfl, rfl, rfl, trivial⟩ ?_
      refine At.go ?_
      refine Sc.cond_f rfl ?_
      refine Sc.skip ?_
      refine At.go ?_
      refine Sc.seq ?_
      refine Sc.region ?_
      refine Sl.calm (Cm.move rfl) rfl ?_
      refine Sl.call fn25 rfl (take_ok B a3 c3 w3 ho3.vw (by omega)) rfl ?_
      rintro _ w5 ⟨rfl, hf5⟩
      have hF5 := hF3.trans hf5
      have hz5 := hf5.size
      have hp5 := hf5.obj hp3 id
      have ho5 := ho3.grow hf5
      refine Sl.calm (Cm.move rfl) rfl ?_
      refine Sl.calm (Cm.extract rfl rfl) rfl ?_
      refine Sl.calm (Cm.extract rfl rfl) rfl ?_
      refine Sl.allocC zc33 rfl ?_
      intro w6 hg6 hs6 hf6
      refine Sl.storeAll (vs := inoC (tkF B) (tkT B)) agg33 rfl rfl (by intro v hv; exact inoC_one _ _ v hv) hg6 rfl ?_
      intro w7 hg7 hs7 hf7
      have hf57 : Foot nob w5 w7 := hf6.trans_to hf7 (fun k hk => .inr (by have h1 : k = w5.heap.size := hk; omega))
      have hp7 := hf57.obj hp5 id
      have ho7 := ho5.grow hf57
      have hF7 := hF5.trans hf57
      have hz7 := hf7.size
      have hz57 := hf57.size
      refine Sl.calm (Cm.assign rfl) rfl ?_
      refine Sl.nil ?_
      refine At.weak [(0, _), (1, _), (2, _), (3, _), (4, _), (5, _), (6, _), (7, _), (24, _)] ⟨rfl, rfl, rfl, rfl, rfl, rfl, rfl, rfl, rfl, trivial⟩ ?_
      refine At.go ?_
      refine Sc.seq ?_
      refine Sc.region ?_
      refine Sl.calm (Cm.move rfl) rfl ?_
      refine Sl.calm (Cm.move rfl) rfl ?_
      refine Sl.calm (Cm.len sl25 rfl) rfl ?_
      refine Sl.calm (Cm.sub64 rfl rfl (by omega)) rfl ?_
      refine Sl.calm (Cm.sliceH sl25 rfl rfl (by omega)) rfl ?_
      have hcv := ho7.vw.take (B.length - 1)
      have hcl : (B.take (B.length - 1)).length = B.length - 1 := by rw [List.length_take]; omega
      refine Sl.call fn25 rfl (by rw [cutAo_zero, show ((B.length : Int) - 1).toNat = (B.take (B.length - 1)).length by rw [hcl]; omega]; exact take_ok (B.take (B.length - 1)) a3 c3 w7 hcv (by omega)) rfl ?_
      rintro _ w8 ⟨rfl, hf8⟩
      have hno8 : ¬ TkOk (B.take (B.length - 1)) := take_other hm (by rw [hcl, ← hB]; omega) (by rw [← hB]; exact getD_dropLast (by omega)) (fun _ => by rw [← hB]; exact getD_dropLast (by omega))
      have e8 := (tk_no hno8).2.2
      have hF8 := hF7.trans hf8
      have hp8 := hf8.obj hp7 id
      have hg8 := hf8.obj hg7 id
      have ho8 := ho7.grow hf8
      have hz8 := hf8.size
      refine Sl.calm (Cm.move rfl) rfl ?_
      refine Sl.calm (Cm.extract rfl rfl) rfl ?_
      refine Sl.calm (Cm.extract rfl rfl) rfl ?_
      refine Sl.allocC zc33 rfl ?_
      intro w9 hg9 hs9 hf9
      refine Sl.storeAll (vs := inoC (tkF (B.take (B.length - 1))) (tkT (B.take (B.length - 1)))) agg33 rfl rfl (by intro v hv; exact inoC_one _ _ v hv) hg9 rfl ?_
      intro w10 hg10 hs10 hf10
      have hf810 : Foot nob w8 w10 := hf9.trans_to hf10 (fun k hk => .inr (by have h1 : k = w8.heap.size := hk; omega))
      have hp10 := hf810.obj hp8 id
      have hg10 := hf810.obj hg8 id
      have ho10 := ho8.grow hf810
      have hF10 := hF8.trans hf810
      have hz10 := hf810.size
      refine Sl.calm (Cm.assign rfl) rfl ?_
      refine Sl.nil ?_
      refine At.weak [(0, _), (1, _), (2, _), (3, _), (4, _), (5, _), (6, _), (7, _), (9, _), (24, _)] ⟨rfl, rfl, rfl, rfl, rfl, rfl, rfl, rfl, rfl, rfl, trivial⟩ ?_
      refine At.go ?_
      refine Sc.seq ?_
      refine Sc.region ?_
      refine Sl.lit0 b8 sl25 rfl ?_
      intro w11 ho11 hs11 hf11
      have hz11 := hf11.size
      refine Sl.calm (Cm.move rfl) rfl ?_
      refine Sl.append b8_one sl25 rfl rfl ho11 (ho10.grow hf11).vw (by simp; omega) (by simp; unfold maxLen; omega) rfl ?_
      intro a12 c12 w12 ho12 hf12 hr12 hn12
      rw [List.nil_append] at ho12 ⊢
      have hf1012 : Foot nob w10 w12 := hf11.trans_to hf12 (fr_at _).step
      have hfr12 : Fr w10.heap.size a12 := fr_next (fr_at _) hr12 hf11.size
      refine Sl.lit1 (enc := b8) (u := (0 : UInt8)) sl25 rfl rfl rfl ?_
      intro w13 ho13 hs13 hf13
      refine Sl.append b8_one sl25 rfl rfl (ho12.grow hf13) ho13.vw (by simp; omega) (by simp; unfold maxLen; omega) rfl ?_
      intro a14 c14 w14 ho14 hf14 hr14 hn14
      have hf1014 : Foot nob w10 w14 := (hf1012.trans hf13).trans_to hf14 hfr12.step
      have hF14 := hF10.trans hf1014
      refine Sl.call fn25 rfl (take_ok (B ++ [0]) a14 c14 w14 ho14.vw (by simp; omega)) rfl ?_
      rintro _ w15 ⟨rfl, hf15⟩
      have hno15 : ¬ TkOk (B ++ [0]) := take_other hm (by rw [List.length_append, ← hB]; simp) (by rw [← hB]; exact getD_snoc (by omega)) (fun _ => by rw [← hB]; exact getD_snoc (by omega))
      have e15 := (tk_no hno15).2.2
      have hF15 := hF14.trans hf15
      have hp15 := hf15.obj (hf1014.obj hp10 id) id
      have hg15 := hf15.obj (hf1014.obj hg10 id) id
      have hz15 := hF15.size
      have hz1015 := (hf1014.trans hf15).size
      refine Sl.calm (Cm.move rfl) rfl ?_
      refine Sl.calm (Cm.extract rfl rfl) rfl ?_
      refine Sl.calm (Cm.extract rfl rfl) rfl ?_
      refine Sl.allocC zc33 rfl ?_
      intro w16 hg16 hs16 hf16
      refine Sl.storeAll (vs := inoC (tkF (B ++ [0])) (tkT (B ++ [0]))) agg33 rfl rfl (by intro v hv; exact inoC_one _ _ v hv) hg16 rfl ?_
      intro w17 hg17 hs17 hf17
      have hf1517 : Foot nob w15 w17 := hf16.trans_to hf17 (fun k hk => .inr (by have h1 : k = w15.heap.size := hk; omega))
      have hp17 := hf1517.obj hp15 id
      have hg17 := hf1517.obj hg15 id
      have hF17 := hF15.trans hf1517
      have htk := take_put hm
      rw [← hB] at htk
      obtain ⟨eF, eT, eE⟩ := tk_yes htk.1
      rw [← eF, ← eT] at htk
      refine Sl.calm (Cm.assign rfl) rfl ?_
      refine Sl.nil ?_
      refine At.weak [(0, _), (1, _), (2, _), (3, _), (4, _), (5, _), (6, _), (7, _), (9, _), (11, _), (24, _)] ⟨rfl, rfl, rfl, rfl, rfl, rfl, rfl, rfl, rfl, rfl, rfl, trivial⟩ ?_
      refine At.go ?_
      refine Sc.seq ?_
      refine Sc.region ?_
      refine Sl.calm (Cm.move rfl) rfl ?_
      refine Sl.calm (Cm.move rfl) rfl ?_
      refine Sl.want rfl rfl (Cm.ldM (cs := inoC F T) agg33 rfl (fun j v hj => cellF hp17 hj)) rfl ?_
      refine Sl.callWant rfl rfl fn23 rfl (may_ok F T w17 hT) rfl ?_
      rintro _ w18 ⟨rfl, hf18⟩
      rw [decide_eq_true hm]
      refine Sl.calm (Cm.pick_t rfl rfl) rfl ?_
      refine Sl.calm (Cm.move rfl) rfl ?_
      refine Sl.want rfl rfl (Cm.ldM (cs := inoC (tkF B) (tkT B)) agg33 rfl (fun j v hj => cellF (hf18.obj hg17 id) hj)) rfl ?_
      refine Sl.want rfl rfl (Cm.ldM (cs := inoC F T) agg33 rfl (fun j v hj => cellF (hf18.obj hp17 id) hj)) rfl ?_
      refine Sl.want rfl rfl (Cm.yes (Cm.eqlIno rfl rfl) htk.2) rfl ?_
      refine Sl.calm (Cm.pick_t rfl rfl) rfl ?_
      refine Sl.calm (Cm.move rfl) rfl ?_
      refine Sl.want rfl rfl (Cm.move rfl) rfl ?_
      refine Sl.want rfl rfl (Cm.yes (Cm.eql rfl rfl) (by rw [eE])) rfl ?_
      refine Sl.calm (Cm.pick_t rfl rfl) rfl ?_
      refine Sl.calm (Cm.move rfl) rfl ?_
      refine Sl.want rfl rfl (Cm.move rfl) rfl ?_
      refine Sl.want rfl rfl (Cm.yes (Cm.eql rfl rfl) (by rw [e8])) rfl ?_
      refine Sl.calm (Cm.pick_t rfl rfl) rfl ?_
      refine Sl.calm (Cm.move rfl) rfl ?_
      refine Sl.want rfl rfl (Cm.move rfl) rfl ?_
      refine Sl.want rfl rfl (Cm.yes (Cm.eql rfl rfl) (by rw [e15])) rfl ?_
      refine Sl.calm (Cm.pick_t rfl rfl) rfl ?_
      refine Sl.calm (Cm.assign rfl) rfl ?_
      refine Sl.nil ?_
      refine At.weak [(0, _), (1, _), (2, _), (3, _), (4, _), (5, _), (6, _), (7, _), (9, _), (11, _), (24, _)] ⟨rfl, rfl, rfl, rfl, rfl, rfl, rfl, rfl, rfl, rfl, rfl, trivial⟩ ?_
      refine At.go ?_
      refine Sc.ret ?_
      refine At.ret1 rfl rfl ?_
      exact ⟨_, rfl, rfl, hF17.trans hf18⟩
end Go.Proofs.Ytoaplldahbbaiaa
