/- inode: the laws on what is written. No condition. -/
import Derived.Test.YtoaplldahbbaiaaInD
namespace Go.Proofs.Ytoaplldahbbaiaa
open Go Go.RowKit
set_option linter.unusedVariables false

def linkF : Nat → Int := fun o => if o = 0 then 3 else if o = 4 then 1 else 0
theorem shown09_ok (W : World) : Calls Try.prog 20 [].toArray W (Ret fun v w' => v = .bool true ∧ Foot nob W w') := by
  have e1 : putI linkF [97, 98] = ([3, 0, 0, 0, 0, 0, 0, 1, 0, 0, 0, 0, 0, 2, 97, 98], 0) := by decide +kernel
  refine calls_of_sc 15 [] Try.func20 rfl rfl rfl (enter_slots trivial) ?_
  refine Sc.seq ?_
  refine Sc.region ?_
  refine Sl.calm (Cm.assign rfl) rfl ?_
  refine Sl.nil ?_
  refine At.go ?_
  refine Sc.seq ?_
  refine Sc.region ?_
  refine Sl.calm (Cm.build (cs := (inoC linkF [97, 98]).toArray) plc33 zc33 rfl (by kernel_rfl)) rfl ?_
  refine Sl.call fn21 rfl (put_ok linkF [97, 98] W (by simp [maxLen])) rfl ?_
  rw [e1]
  rintro _ w2 ⟨ao2, c2, rfl, ho2, hfr2, hf2⟩
  refine Sl.calm (Cm.move rfl) rfl ?_
  refine Sl.calm (Cm.extract rfl rfl) rfl ?_
  refine Sl.calm (Cm.extract rfl rfl) rfl ?_
  refine Sl.calm (Cm.assign rfl) rfl ?_
  refine Sl.calm (Cm.assign rfl) rfl ?_
  refine Sl.nil ?_
  refine At.weak [(0, _), (1, _), (2, _)] ⟨rfl, rfl, rfl, trivial⟩ ?_
  refine At.go ?_
  refine Sc.seq ?_
  refine Sc.region ?_
  refine Sl.calm (Cm.move rfl) rfl ?_
  refine Sl.calm (Cm.strIn sl25 ty5 ty9 rfl ho2.vw) rfl ?_
  refine Sl.calm (Cm.yes (Cm.eqlBs rfl rfl) rfl) rfl ?_
  refine Sl.calm (Cm.move rfl) rfl ?_
  refine Sl.want rfl rfl (Cm.move rfl) rfl ?_
  refine Sl.want rfl rfl (Cm.yes (Cm.eql rfl rfl) rfl) rfl ?_
  refine Sl.calm (Cm.pick_t rfl rfl) rfl ?_
  refine Sl.calm (Cm.assign rfl) rfl ?_
  refine Sl.nil ?_
  refine At.weak [(0, _), (1, _), (2, _)] ⟨rfl, rfl, rfl, trivial⟩ ?_
  refine At.go ?_
  refine Sc.ret ?_
  refine At.ret1 rfl rfl ?_
  exact ⟨_, rfl, rfl, hf2⟩

set_option maxHeartbeats 1000000 in
theorem inodePuts_ok (F : Nat → Int) (T : List UInt8) (W : World) (hT : T.length ≤ maxLen) :
    Calls Try.prog 4 [.agg (inoC F T).toArray].toArray W (Ret fun v w' => v = .bool true ∧ Foot nob W w') := by
  refine calls_of_sc 39 [(0, _)] Try.func4 rfl rfl rfl (enter_slots ⟨rfl, trivial⟩) ?_
  refine Sc.seq ?_
  refine Sc.region ?_
  refine Sl.box rfl rfl ?_
  intro w1 hg1 hs1 hf1
  have hg1 : w1.heap[W.heap.size]? = some (.cells (inoC F T).toArray 33 (0, 0)) := hg1
  refine Sl.calm (Cm.assign rfl) rfl ?_
  refine Sl.nil ?_
  refine At.go ?_
  refine Sc.seq ?_
  refine Sc.region ?_
  refine Sl.call fn20 rfl (shown09_ok w1) rfl ?_
  rintro _ w2 ⟨rfl, hf2⟩
  have hp2 := hf2.obj hg1 id
  refine Sl.calm (Cm.assign rfl) rfl ?_
  refine Sl.nil ?_
  refine At.weak [(0, _), (1, _), (2, _), (3, _)] ⟨rfl, rfl, rfl, rfl, trivial⟩ ?_
  refine At.go ?_
  refine Sc.seq ?_
  refine Sc.region ?_
  refine Sl.calm (Cm.ldM (cs := inoC F T) agg33 rfl (fun j v hj => cellF hp2 hj)) rfl ?_
  refine Sl.call fn21 rfl (put_ok F T w2 hT) rfl ?_
  rintro _ w3 ⟨a3, c3, rfl, ho3, hfr3, hf3⟩
  have hp3 := hf3.obj hp2 id
  refine Sl.calm (Cm.move rfl) rfl ?_
  refine Sl.calm (Cm.extract rfl rfl) rfl ?_
  refine Sl.calm (Cm.extract rfl rfl) rfl ?_
  refine Sl.calm (Cm.assign rfl) rfl ?_
  refine Sl.calm (Cm.assign rfl) rfl ?_
  refine Sl.nil ?_
  refine At.weak [(0, _), (1, _), (2, _), (3, _), (4, _), (5, _)] ⟨rfl, rfl, rfl, rfl, rfl, rfl, trivial⟩ ?_
  refine At.go ?_
  refine Sc.seq ?_
  refine Sc.region ?_
  refine Sl.calm (Cm.ldM (cs := inoC F T) agg33 rfl (fun j v hj => cellF hp3 hj)) rfl ?_
  refine Sl.call fn22 rfl (rput_ok F T w3 hT) rfl ?_
  rintro _ w4 ⟨a4, c4, rfl, ho4, hfr4, hf4⟩
  have hp4 := hf4.obj hp3 id
  refine Sl.calm (Cm.move rfl) rfl ?_
  refine Sl.calm (Cm.extract rfl rfl) rfl ?_
  refine Sl.calm (Cm.extract rfl rfl) rfl ?_
  refine Sl.calm (Cm.assign rfl) rfl ?_
  refine Sl.calm (Cm.assign rfl) rfl ?_
  refine Sl.nil ?_
  refine At.weak [(0, _), (1, _), (2, _), (3, _), (4, _), (5, _), (6, _), (7, _)] ⟨rfl, rfl, rfl, rfl, rfl, rfl, rfl, rfl, trivial⟩ ?_
  refine At.go ?_
  refine Sc.seq ?_
  refine Sc.draw 21 (fun H => H[W.heap.size]? = some (.cells (inoC F T).toArray 33 (0, 0)) ∧ Own b8 5 H a3 c3 (putI F T).1 ∧ Own b8 5 H a4 c4 (putI F T).1) [3, 5] [0, 1, 2, 4, 3, 5, 6, 7, 8, 9, 10, 11, 12, 13, 14, 15, 16, 17, 18, 19, 20] mixed (by kernel_rfl) (⟨hp4, ho3.grow hf4, ho4⟩) ?_
  refine Sx.calm rfl rfl (Cm.move rfl) rfl ?_
  refine Sx.calm rfl rfl (Cm.move rfl) rfl ?_
  refine Sx.want rfl rfl rfl rfl (Cm.loadM (cs := inoC F T) agg33 rfl (fun H hH j v hj => cellF hH.1 hj)) rfl ?_
  refine Sx.want rfl rfl rfl rfl (Cm.loadM (cs := inoC F T) agg33 rfl (fun H hH j v hj => cellF hH.1 hj)) rfl ?_
  refine Sx.eff rfl rfl (Sl.callWant rfl rfl fn23 rfl (may_ok F T _ hT) rfl ?_)
  rintro _ w5 ⟨rfl, hf5⟩
  refine Sx.on (by exact ⟨hf5.obj hp4 id, (ho3.grow hf4).grow hf5.undraw, ho4.grow hf5.undraw⟩) ?_
  refine Sx.eff rfl rfl (Sl.callWant rfl rfl fn24 rfl (rmay_ok F T _ hT) rfl ?_)
  rintro _ w6 ⟨rfl, hf6⟩
  refine Sx.on (by exact ⟨hf6.obj (hf5.obj hp4 id) id, ((ho3.grow hf4).grow hf5.undraw).grow hf6, (ho4.grow hf5.undraw).grow hf6⟩) ?_
  refine Sx.want rfl rfl rfl rfl (Cm.yes (Cm.ofBool (Cm.eqlBool ty4 rfl rfl)) (by simp)) rfl ?_
  refine Sx.calm rfl rfl (Cm.pick_t rfl rfl) rfl ?_
  refine Sx.calm rfl rfl (Cm.move rfl) rfl ?_
  refine Sx.want rfl rfl rfl rfl (Cm.move rfl) rfl ?_
  refine Sx.want rfl rfl rfl rfl (Cm.str sl25 ty5 ty9 rfl (fun H hH => hH.2.1.vw)) rfl ?_
  refine Sx.want rfl rfl rfl rfl (Cm.move rfl) rfl ?_
  refine Sx.want rfl rfl rfl rfl (Cm.str sl25 ty5 ty9 rfl (fun H hH => hH.2.2.vw)) rfl ?_
  refine Sx.want rfl rfl rfl rfl (Cm.yes (Cm.eqlBs rfl rfl) rfl) rfl ?_
  refine Sx.calm rfl rfl (Cm.pick_t rfl rfl) rfl ?_
  refine Sx.calm rfl rfl (Cm.move rfl) rfl ?_
  refine Sx.want rfl rfl rfl rfl (Cm.move rfl) rfl ?_
  refine Sx.want rfl rfl rfl rfl (Cm.move rfl) rfl ?_
  refine Sx.want rfl rfl rfl rfl (Cm.yes (Cm.eql rfl rfl) rfl) rfl ?_
  refine Sx.calm rfl rfl (Cm.pick_t rfl rfl) rfl ?_
  refine Sx.calm rfl rfl (Cm.assign rfl) rfl ?_
  refine Sx.nil ?_
  refine At.weak [(0, _), (1, _), (2, _), (3, _), (4, _), (5, _), (6, _), (7, _)] ⟨rfl, rfl, rfl, rfl, rfl, rfl, rfl, rfl, trivial⟩ ?_
  refine At.go ?_
  refine Sc.ret ?_
  refine At.ret1 rfl rfl ?_
  exact ⟨_, rfl, rfl, ((((hf1.trans hf2).trans hf3).trans hf4).trans hf5.undraw).trans hf6⟩

theorem rSt_len {F : Nat → Int} {T : List UInt8} (h : mayI F T) : (rEnd F T).2.length = (if F 0 = 2 then 22 else if F 0 = 1 then 21 else 14 + T.length) := by
  obtain ⟨h1, h2⟩ := rSt_good h _ (Nat.le_refl _)
  rw [List.take_length] at h2
  have hk := may_kind h
  have h9 := h.1
  unfold mayA at h9
  unfold rEnd
  by_cases h3 : F 0 = 3
  · rw [if_pos h3, if_neg (by omega), if_neg (by omega)]
    have h4 := (txtS_good (s := rSt F (recL (F 0)).length) (t := T) h1 (by omega)).2
    rw [h4, h2]
    unfold recL fldL
    rw [if_neg (by omega), if_neg (by omega)]
    simp [comL] <;> omega
  · rw [if_neg h3, h2]
    by_cases h4 : F 0 = 2
    · rw [if_pos h4]
      unfold recL fldL
      rw [if_pos h4]
      simp [comL, filL]
    · rw [if_neg h4, if_pos (by omega)]
      unfold recL fldL
      rw [if_neg h4, if_pos (by omega)]
      simp [comL, dirL]

set_option maxHeartbeats 1000000 in
theorem inodeLong_ok (F : Nat → Int) (T : List UInt8) (W : World) (hT : T.length ≤ maxLen) :
    Calls Try.prog 5 [.agg (inoC F T).toArray].toArray W (Ret fun v w' => v = .bool true ∧ Foot nob W w') := by
  have hgood : (putI F T).2 ≠ 0 → (putI F T).1.length = 0 := by unfold putI; split <;> simp
  have hmay : (putI F T).2 = 0 → mayI F T := by unfold putI; split <;> simp_all
  refine calls_of_sc 53 [(0, _)] Try.func5 rfl rfl rfl (enter_slots ⟨rfl, trivial⟩) ?_
  refine Sc.seq ?_
  refine Sc.region ?_
  refine Sl.box rfl rfl ?_
  intro w1 hg1 hs1 hf1
  have hg1 : w1.heap[W.heap.size]? = some (.cells (inoC F T).toArray 33 (0, 0)) := hg1
  refine Sl.calm (Cm.assign rfl) rfl ?_
  refine Sl.nil ?_
  refine At.go ?_
  refine Sc.seq ?_
  refine Sc.region ?_
  refine Sl.call fn20 rfl (shown09_ok w1) rfl ?_
  rintro _ w2 ⟨rfl, hf2⟩
  have hp2 := hf2.obj hg1 id
  refine Sl.calm (Cm.assign rfl) rfl ?_
  refine Sl.nil ?_
  refine At.weak [(0, _), (1, _), (2, _), (3, _)] ⟨rfl, rfl, rfl, rfl, trivial⟩ ?_
  refine At.go ?_
  refine Sc.seq ?_
  refine Sc.region ?_
  refine Sl.calm (Cm.ldM (cs := inoC F T) agg33 rfl (fun j v hj => cellF hp2 hj)) rfl ?_
  refine Sl.call fn21 rfl (put_ok F T w2 hT) rfl ?_
  rintro _ w3 ⟨a3, c3, rfl, ho3, hfr3, hf3⟩
  have hp3 := hf3.obj hp2 id
  refine Sl.calm (Cm.move rfl) rfl ?_
  refine Sl.calm (Cm.extract rfl rfl) rfl ?_
  refine Sl.calm (Cm.extract rfl rfl) rfl ?_
  refine Sl.calm (Cm.assign rfl) rfl ?_
  refine Sl.calm (Cm.assign rfl) rfl ?_
  refine Sl.nil ?_
  refine At.weak [(0, _), (1, _), (2, _), (3, _), (4, _), (5, _)] ⟨rfl, rfl, rfl, rfl, rfl, rfl, trivial⟩ ?_
  refine At.go ?_
  refine Sc.seq ?_
  refine Sc.seq ?_
  refine Sc.region ?_
  refine Sl.calm (Cm.move rfl) rfl ?_
  refine Sl.fork (Cm.neq rfl rfl) rfl (fun h13 => ?_) (fun h13 => ?_)
  ·
    refine Sl.nil ?_
    refine At.weak [(0, _), (1, _), (2, _), (3, _), (4, _), (5, _), (13, _)] ⟨rfl, rfl, rfl, rfl, rfl, rfl, rfl, trivial⟩ ?_
    refine At.go ?_
    refine Sc.cond_t rfl ?_
    refine Sc.seq ?_
    refine Sc.region ?_
    refine Sl.calm (Cm.move rfl) rfl ?_
    refine Sl.calm (Cm.move rfl) rfl ?_
    refine Sl.want rfl rfl (Cm.move rfl) rfl ?_
    refine Sl.want rfl rfl (Cm.len sl25 rfl) rfl ?_
    refine Sl.want rfl rfl (Cm.yes (Cm.eql rfl rfl) (by have := hgood h13; omega)) rfl ?_
    refine Sl.calm (Cm.pick_t rfl rfl) rfl ?_
    refine Sl.calm (Cm.assign rfl) rfl ?_
    refine Sl.nil ?_
    refine At.weak [(0, _), (1, _), (2, _), (3, _), (4, _), (5, _), (13, _)] ⟨rfl, rfl, rfl, rfl, rfl, rfl, rfl, trivial⟩ ?_
    refine At.go ?_
    refine Sc.ret ?_
    refine At.then_ret ?_
    refine At.ret1 rfl rfl ?_
    exact ⟨_, rfl, rfl, (hf1.trans hf2).trans hf3⟩
  ·
    have hm := hmay (by omega)
    have hlen := rSt_len hm
    have e : (putI F T).1 = (rEnd F T).2 := by unfold putI; rw [if_pos hm]
    rw [← e] at hlen
    have hkind := may_kind hm
    have h9 := hm.1
    unfold mayA at h9
    refine Sl.nil ?_
    refine At.weak [(0, _), (1, _), (2, _), (3, _), (4, _), (5, _), (13, _)] ⟨rfl, rfl, rfl, rfl, rfl, rfl, rfl, trivial⟩ ?_
    refine At.go ?_
    refine Sc.cond_f rfl ?_
    refine Sc.skip ?_
    refine At.go ?_
    refine Sc.seq ?_
    refine Sc.seq ?_
    refine Sc.region ?_
    refine Sl.calm (Cm.field fld33_0 rfl) rfl ?_
    refine Sl.calm (Cm.ld sca3 rfl (cellF hp3 rfl)) rfl ?_
    refine Sl.nil ?_
    refine At.weak [(0, _), (1, _), (2, _), (3, _), (4, _), (5, _), (13, _), (21, _)] ⟨rfl, rfl, rfl, rfl, rfl, rfl, rfl, rfl, trivial⟩ ?_
    refine At.go ?_
    refine Sc.block ?_
    refine Sc.seq ?_
    refine Sc.region ?_
    refine Sl.fork (Cm.eql rfl rfl) rfl (fun h23 => ?_) (fun h23 => ?_)
    ·
      refine Sl.calm (Cm.assign rfl) rfl ?_
      refine Sl.nil ?_
      refine At.weak [(0, _), (1, _), (2, _), (3, _), (4, _), (5, _), (13, _), (21, _), (22, _)] ⟨rfl, rfl, rfl, rfl, rfl, rfl, rfl, rfl, rfl, trivial⟩ ?_
      refine At.go ?_
      refine Sc.cond_t rfl ?_
      refine Sc.seq ?_
      refine Sc.region ?_
      refine Sl.calm (Cm.move rfl) rfl ?_
      refine Sl.calm (Cm.move rfl) rfl ?_
      refine Sl.want rfl rfl (Cm.move rfl) rfl ?_
      refine Sl.want rfl rfl (Cm.len sl25 rfl) rfl ?_
      refine Sl.want rfl rfl (Cm.yes (Cm.eql rfl rfl) (by rw [hlen, if_pos h23]; rfl)) rfl ?_
      refine Sl.calm (Cm.pick_t rfl rfl) rfl ?_
      refine Sl.calm (Cm.assign rfl) rfl ?_
      refine Sl.nil ?_
      refine At.weak [(0, _), (1, _), (2, _), (3, _), (4, _), (5, _), (13, _), (21, _), (22, _)] ⟨rfl, rfl, rfl, rfl, rfl, rfl, rfl, rfl, rfl, trivial⟩ ?_
      refine At.go ?_
      refine Sc.ret ?_
      refine At.block_ret ?_
      refine At.then_ret ?_
      refine At.ret1 rfl rfl ?_
      exact ⟨_, rfl, rfl, (hf1.trans hf2).trans hf3⟩
    ·
      refine Sl.calm (Cm.assign rfl) rfl ?_
      refine Sl.nil ?_
      refine At.weak [(0, _), (1, _), (2, _), (3, _), (4, _), (5, _), (13, _), (21, _), (22, _)] ⟨rfl, rfl, rfl, rfl, rfl, rfl, rfl, rfl, rfl, trivial⟩ ?_
      refine At.go ?_
      refine Sc.cond_f rfl ?_
      refine Sc.seq ?_
      refine Sc.region ?_
      refine Sl.fork (Cm.eql rfl rfl) rfl (fun h31 => ?_) (fun h31 => ?_)
      ·
        refine Sl.calm (Cm.assign rfl) rfl ?_
        refine Sl.nil ?_
        refine At.weak [(0, _), (1, _), (2, _), (3, _), (4, _), (5, _), (13, _), (21, _), (22, _), (30, _)] ⟨rfl, rfl, rfl, rfl, rfl, rfl, rfl, rfl, rfl, rfl, trivial⟩ ?_
        refine At.go ?_
        refine Sc.cond_t rfl ?_
        refine Sc.seq ?_
        refine Sc.region ?_
        refine Sl.calm (Cm.move rfl) rfl ?_
        refine Sl.calm (Cm.move rfl) rfl ?_
        refine Sl.want rfl rfl (Cm.move rfl) rfl ?_
        refine Sl.want rfl rfl (Cm.len sl25 rfl) rfl ?_
        refine Sl.want rfl rfl (Cm.yes (Cm.eql rfl rfl) (by rw [hlen, if_neg h23, if_pos h31]; rfl)) rfl ?_
        refine Sl.calm (Cm.pick_t rfl rfl) rfl ?_
        refine Sl.calm (Cm.assign rfl) rfl ?_
        refine Sl.nil ?_
        refine At.weak [(0, _), (1, _), (2, _), (3, _), (4, _), (5, _), (13, _), (21, _), (22, _), (30, _)] ⟨rfl, rfl, rfl, rfl, rfl, rfl, rfl, rfl, rfl, rfl, trivial⟩ ?_
        refine At.go ?_
        refine Sc.ret ?_
        refine At.block_ret ?_
        refine At.then_ret ?_
        refine At.ret1 rfl rfl ?_
        exact ⟨_, rfl, rfl, (hf1.trans hf2).trans hf3⟩
      ·
        refine Sl.calm (Cm.assign rfl) rfl ?_
        refine Sl.nil ?_
        refine At.weak [(0, _), (1, _), (2, _), (3, _), (4, _), (5, _), (13, _), (21, _), (22, _), (30, _)] ⟨rfl, rfl, rfl, rfl, rfl, rfl, rfl, rfl, rfl, rfl, trivial⟩ ?_
        refine At.go ?_
        refine Sc.cond_f rfl ?_
        refine Sc.skip ?_
        refine At.block_normal ?_
        refine At.go ?_
        refine Sc.seq ?_
        refine Sc.region ?_
        refine Sl.calm (Cm.move rfl) rfl ?_
        refine Sl.calm (Cm.move rfl) rfl ?_
        refine Sl.want rfl rfl (Cm.field fld33_0 rfl) rfl ?_
        refine Sl.want rfl rfl (Cm.ld sca3 rfl (cellF hp3 rfl)) rfl ?_
        refine Sl.want rfl rfl (Cm.yes (Cm.eql rfl rfl) (by omega)) rfl ?_
        refine Sl.calm (Cm.pick_t rfl rfl) rfl ?_
        refine Sl.calm (Cm.move rfl) rfl ?_
        refine Sl.want rfl rfl (Cm.move rfl) rfl ?_
        refine Sl.want rfl rfl (Cm.len sl25 rfl) rfl ?_
        refine Sl.want rfl rfl (Cm.field fld33_10 rfl) rfl ?_
        refine Sl.want rfl rfl (Cm.ld sca9 rfl (cellF hp3 rfl)) rfl ?_
        refine Sl.want rfl rfl (Cm.lenBs ty9 rfl) rfl ?_
        refine Sl.want rfl rfl (Cm.add64 rfl rfl (by omega)) rfl ?_
        refine Sl.want rfl rfl (Cm.yes (Cm.eql rfl rfl) (by rw [hlen, if_neg h23, if_neg h31]; omega)) rfl ?_
        refine Sl.calm (Cm.pick_t rfl rfl) rfl ?_
        refine Sl.calm (Cm.assign rfl) rfl ?_
        refine Sl.nil ?_
        refine At.weak [(0, _), (1, _), (2, _), (3, _), (4, _), (5, _), (13, _), (21, _), (22, _), (30, _)] ⟨rfl, rfl, rfl, rfl, rfl, rfl, rfl, rfl, rfl, rfl, trivial⟩ ?_
        refine At.go ?_
        refine Sc.ret ?_
        refine At.ret1 rfl rfl ?_
        exact ⟨_, rfl, rfl, (hf1.trans hf2).trans hf3⟩
end Go.Proofs.Ytoaplldahbbaiaa
