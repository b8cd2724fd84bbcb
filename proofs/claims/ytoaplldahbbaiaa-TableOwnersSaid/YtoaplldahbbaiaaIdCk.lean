/- table: the laws on owners. No condition beyond the bounds that each states. -/
import Derived.Test.YtoaplldahbbaiaaIdBk
namespace Go.Proofs.Ytoaplldahbbaiaa
open Go Go.RowKit Go.Maps
set_option linter.unusedVariables false

set_option maxHeartbeats 1000000 in
theorem sameI_ok (xs : List Int) (ao bo : Option Addr) (ac bc : Nat) (W : World) (ha : Vw i64 W.heap ao ac xs) (hb : Vw i64 W.heap bo bc xs) :
    Calls Try.prog 33 [.slice ao xs.length ac, .slice bo xs.length bc].toArray W (Ret fun v w' => v = .bool true ∧ Foot nob W w') := by
  have hl := ha.len63
  refine calls_of_sc 26 [(0, _), (1, _)] Try.func33 rfl rfl rfl (enter_slots ⟨rfl, rfl, trivial⟩) ?_
  refine Sc.seq ?_
  refine Sc.region ?_
  refine Sl.calm (Cm.assign rfl) rfl ?_
  refine Sl.nil ?_
  refine At.go ?_
  refine Sc.seq ?_
  refine Sc.seq ?_
  refine Sc.region ?_
  refine Sl.calm (Cm.move rfl) rfl ?_
  refine Sl.calm (Cm.len sl22 rfl) rfl ?_
  refine Sl.calm (Cm.move rfl) rfl ?_
  refine Sl.calm (Cm.len sl22 rfl) rfl ?_
  refine Sl.calm (Cm.no (Cm.neq rfl rfl) (fun h => h rfl)) rfl ?_
  refine Sl.nil ?_
  refine At.weak [(0, _), (1, _), (4, _), (10, _)] ⟨rfl, rfl, rfl, rfl, trivial⟩ ?_
  refine At.go ?_
  refine Sc.cond_f rfl ?_
  refine Sc.skip ?_
  refine At.go ?_
  refine Sc.seq ?_
  refine Sc.seq ?_
  refine Sc.region ?_
  refine Sl.calm (Cm.assign rfl) rfl ?_
  refine Sl.nil ?_
  refine At.go ?_
  refine Sc.block ?_
  refine Sc.loop (β := Nat) (fun k => [(0, .slice ao xs.length ac), (1, .slice bo xs.length bc), (5, .int .i64 k)]) (fun k w => k ≤ xs.length ∧ Foot nob W w) (fun k => xs.length - k) 0 ⟨rfl, rfl, rfl, trivial⟩ ⟨Nat.zero_le _, Foot.refl _ _⟩ ?_
  rintro k w ⟨hk, hF⟩
  refine Sc.seq ?_
  refine Sc.seq ?_
  refine Sc.region ?_
  refine Sl.calm (Cm.move rfl) rfl ?_
  refine Sl.calm (Cm.move rfl) rfl ?_
  refine Sl.calm (Cm.len sl22 rfl) rfl ?_
  refine Sl.fork (Cm.lss rfl rfl) rfl (fun h14 => ?_) (fun h14 => ?_)
  ·
    refine Sl.nil ?_
    refine At.weak [(0, _), (1, _), (5, _), (14, _)] ⟨rfl, rfl, rfl, rfl, trivial⟩ ?_
    refine At.go ?_
    refine Sc.cond_t rfl ?_
    refine Sc.skip ?_
    refine At.go ?_
    refine Sc.seq ?_
    refine Sc.block ?_
    refine Sc.seq ?_
    refine Sc.quiet 9 [0, 1, 2, 3, 4, 5, 6, 7, 8] mixed (by kernel_rfl) ?_
    refine Sx.calm rfl rfl (Cm.move rfl) rfl ?_
    refine Sx.calm rfl rfl (Cm.move rfl) rfl ?_
    refine Sx.calm rfl rfl (Cm.indexAddr1 sl22 rfl rfl ha.non (by omega)) rfl ?_
    refine Sx.calm rfl rfl (Cm.ld sca3 rfl ((ha.grow hF).gz 0 k rfl (by omega))) rfl ?_
    refine Sx.calm rfl rfl (Cm.move rfl) rfl ?_
    refine Sx.calm rfl rfl (Cm.move rfl) rfl ?_
    refine Sx.calm rfl rfl (Cm.indexAddr1 sl22 rfl rfl hb.non (by omega)) rfl ?_
    refine Sx.calm rfl rfl (Cm.ld sca3 rfl ((hb.grow hF).gz 0 k rfl (by omega))) rfl ?_
    refine Sx.calm rfl rfl (Cm.no (Cm.neq rfl rfl) (fun h => h rfl)) rfl ?_
    refine Sx.nil ?_
    refine At.weak [(0, _), (1, _), (5, _), (14, _), (25, _)] ⟨rfl, rfl, rfl, rfl, rfl, trivial⟩ ?_
    refine At.go ?_
    refine Sc.cond_f rfl ?_
    refine Sc.skip ?_
    refine At.block_normal ?_
    refine At.go ?_
    refine Sc.region ?_
    refine Sl.calm (Cm.move rfl) rfl ?_
    refine Sl.calm (Cm.add64 rfl rfl (by omega)) rfl ?_
    refine Sl.calm (Cm.assign rfl) rfl ?_
    refine Sl.nil ?_
    exact At.again (k + 1) ⟨rfl, rfl, rfl, trivial⟩ ⟨by omega, hF.draws 1⟩ (by show xs.length - (k + 1) < xs.length - k; omega)
  ·
    refine Sl.nil ?_
    refine At.weak [(0, _), (1, _), (5, _), (14, _)] ⟨rfl, rfl, rfl, rfl, trivial⟩ ?_
    refine At.go ?_
    refine Sc.cond_f rfl ?_
    refine Sc.exit ?_
    refine At.then_exit ?_
    refine At.then_exit ?_
    refine At.block_hit ?_
    refine At.go ?_
    refine Sc.seq ?_
    refine Sc.region ?_
    refine Sl.calm (Cm.assign rfl) rfl ?_
    refine Sl.nil ?_
    refine At.go ?_
    refine Sc.ret ?_
    refine At.ret1 rfl rfl ?_
    exact ⟨_, rfl, rfl, hF⟩
set_option maxHeartbeats 2000000 in
theorem tableIDs_ok (lo : Option Addr) (lc : Nat) (ps : List (NdH × Nd)) (W : World) (hv0 : VwM 10 encN W.heap lo lc ps) (hok0 : ∀ p ∈ ps, okN p.2) :
    Calls Try.prog 10 [.slice lo ps.length lc].toArray W (Ret fun v w' => v = .bool true ∧ Foot nob W w') := by
  obtain ⟨M, hM⟩ : ∃ M, M = ps.take 100 := ⟨_, rfl⟩
  have hMl : M.length ≤ 100 := by rw [hM, List.length_take]; omega
  have hv : VwM 10 encN W.heap lo lc M := by rw [hM]; exact hv0.take 100
  have hok : ∀ p ∈ M, okN p.2 := fun p hp => hok0 p (by rw [hM] at hp; exact List.mem_of_mem_take hp)
  have hle := hv0.le
  have hll := hv0.len63
  refine calls_of_sc 20 [(0, _)] Try.func10 rfl rfl rfl (enter_slots ⟨rfl, trivial⟩) ?_
  refine Sc.seq ?_
  refine Sc.region ?_
  refine Sl.calm (Cm.assign rfl) rfl ?_
  refine Sl.nil ?_
  refine At.go ?_
  refine Sc.seq ?_
  refine Sc.region ?_
  refine Sl.call fn14 rfl (shown11_ok W) rfl ?_
  rintro _ w1 ⟨rfl, hf1⟩
  refine Sl.calm (Cm.assign rfl) rfl ?_
  refine Sl.nil ?_
  refine At.weak [(0, _), (2, _), (3, _)] ⟨rfl, rfl, rfl, trivial⟩ ?_
  refine At.go ?_
  refine Sc.cut (β := Unit) (fun _u => [(0, .slice lo M.length lc), (3, .bool true)]) (fun _u w => w = w1) ?_ ?_
  ·
    refine Sc.seq ?_
    refine Sc.region ?_
    refine Sl.calm (Cm.move rfl) rfl ?_
    refine Sl.calm (Cm.len sl65 rfl) rfl ?_
    refine Sl.fork (Cm.gtr rfl rfl) rfl (fun h8 => ?_) (fun h8 => ?_)
    ·
      refine Sl.nil ?_
      refine At.weak [(0, _), (2, _), (3, _), (8, _)] ⟨rfl, rfl, rfl, rfl, trivial⟩ ?_
      refine At.go ?_
      refine Sc.cond_t rfl ?_
      refine Sc.region ?_
      refine Sl.calm (Cm.move rfl) rfl ?_
      refine Sl.calm (Cm.ofEq (u := .slice lo M.length lc) (Cm.sliceH sl65 rfl rfl (by omega)) (by rw [cutAo_zero, hM, List.length_take, Nat.min_eq_left (by omega)]; rfl)) rfl ?_
      refine Sl.calm (Cm.assign rfl) rfl ?_
      refine Sl.nil ?_
      exact At.cut () ⟨rfl, rfl, trivial⟩ rfl
    ·
      refine Sl.nil ?_
      refine At.weak [(0, _), (2, _), (3, _), (8, _)] ⟨rfl, rfl, rfl, rfl, trivial⟩ ?_
      refine At.go ?_
      refine Sc.cond_f rfl ?_
      refine Sc.skip ?_
      exact At.cut () ⟨(by rw [hM, List.take_of_length_le (by omega)]; rfl), rfl, trivial⟩ rfl
  ·
    rintro _ wq hwq
    obtain rfl : w1 = wq := hwq.symm
    refine Sc.seq ?_
    refine Sc.region ?_
    refine Sl.calm (Cm.move rfl) rfl ?_
    refine Sl.call fn37 rfl (ids_ok lo lc M w1 (hv.keep hf1 (fun _ _ => id)) hok (by omega)) rfl ?_
    rintro _ w3 ⟨o3, c3, L, rfl, ho3, hfr3, hL3, hf3⟩
    refine Sl.calm (Cm.move rfl) rfl ?_
    refine Sl.call fn38 rfl (rids_ok lo lc M w3 (hv.keep (hf1.trans hf3) (fun _ _ => id)) (by omega)) rfl ?_
    rintro _ w4 ⟨o4, c4, L4, rfl, ho4, hfr4, hL4, hf4⟩
    obtain rfl := hL3.eq hL4
    refine Sl.call fn33 rfl (sameI_ok L o3 o4 c3 c4 w4 (ho3.grow hf4).vw ho4.vw) rfl ?_
    rintro _ w5 ⟨rfl, hf5⟩
    refine Sl.calm (Cm.assign rfl) rfl ?_
    refine Sl.nil ?_
    refine At.weak [(0, _), (3, _), (4, _)] ⟨rfl, rfl, rfl, trivial⟩ ?_
    refine At.go ?_
    refine Sc.seq ?_
    refine Sc.region ?_
    refine Sl.calm (Cm.move rfl) rfl ?_
    refine Sl.calm (Cm.move rfl) rfl ?_
    refine Sl.want rfl rfl (Cm.move rfl) rfl ?_
    refine Sl.calm (Cm.pick_t rfl rfl) rfl ?_
    refine Sl.calm (Cm.assign rfl) rfl ?_
    refine Sl.nil ?_
    refine At.weak [(0, _), (2, _), (3, _), (4, _)] ⟨rfl, rfl, rfl, rfl, trivial⟩ ?_
    refine At.go ?_
    refine Sc.ret ?_
    refine At.ret1 rfl rfl ?_
    exact ⟨_, rfl, rfl, ((hf1.trans hf3).trans hf4).trans hf5⟩
theorem ownZ_mem {ps : List (NdH × Nd)} {z : Int} : z ∈ ownZ ps ↔ ∃ p ∈ ps, z = p.2.ud ∨ z = p.2.gd := by simp [ownZ]
theorem takeZ {L : List Int} {i : Nat} (h : i < L.length) {z : Int} : z ∈ L.take (i + 1) ↔ z ∈ L.take i ∨ z = L.getD i 0 := by
  rw [List.take_succ_eq_append_getElem h, List.mem_append, List.mem_singleton, List.getD, List.getElem?_eq_getElem h]; rfl
theorem ownZ_takeS {ps : List (NdH × Nd)} {k : Nat} {p : NdH × Nd} (h : ps[k]? = some p) {z : Int} : z ∈ ownZ (ps.take (k + 1)) ↔ z ∈ ownZ (ps.take k) ∨ z = p.2.ud ∨ z = p.2.gd := by
  rw [tkP h, ownZ_snoc, List.mem_append]; simp
set_option maxHeartbeats 8000000 in
theorem tableOwners_ok (lo : Option Addr) (lc : Nat) (ps : List (NdH × Nd)) (W : World) (hv0 : VwM 10 encN W.heap lo lc ps) (hok0 : ∀ p ∈ ps, okN p.2) :
    Calls Try.prog 11 [.slice lo ps.length lc].toArray W (Ret fun v w' => v = .bool true ∧ Foot nob W w') := by
  obtain ⟨M, hM⟩ : ∃ M, M = ps.take 100 := ⟨_, rfl⟩
  have hMl : M.length ≤ 100 := by rw [hM, List.length_take]; omega
  have hv : VwM 10 encN W.heap lo lc M := by rw [hM]; exact hv0.take 100
  have hok : ∀ p ∈ M, okN p.2 := fun p hp => hok0 p (by rw [hM] at hp; exact List.mem_of_mem_take hp)
  have hle := hv0.le
  have hll := hv0.len63
  refine calls_of_sc 124 [(0, _)] Try.func11 rfl rfl rfl (enter_slots ⟨rfl, trivial⟩) ?_
  refine Sc.seq ?_
  refine Sc.region ?_
  refine Sl.calm (Cm.assign rfl) rfl ?_
  refine Sl.nil ?_
  refine At.go ?_
  refine Sc.seq ?_
  refine Sc.region ?_
  refine Sl.call fn14 rfl (shown11_ok W) rfl ?_
  rintro _ w1 ⟨rfl, hf1⟩
  refine Sl.calm (Cm.assign rfl) rfl ?_
  refine Sl.nil ?_
  refine At.weak [(0, _), (2, _), (3, _)] ⟨rfl, rfl, rfl, trivial⟩ ?_
  refine At.go ?_
  refine Sc.cut (β := Unit) (fun _u => [(0, .slice lo M.length lc), (3, .bool true)]) (fun _u w => w = w1) ?_ ?_
  ·
    refine Sc.seq ?_
    refine Sc.region ?_
    refine Sl.calm (Cm.move rfl) rfl ?_
    refine Sl.calm (Cm.len sl65 rfl) rfl ?_
    refine Sl.fork (Cm.gtr rfl rfl) rfl (fun h15 => ?_) (fun h15 => ?_)
    ·
      refine Sl.nil ?_
      refine At.weak [(0, _), (2, _), (3, _), (15, _)] ⟨rfl, rfl, rfl, rfl, trivial⟩ ?_
      refine At.go ?_
      refine Sc.cond_t rfl ?_
      refine Sc.region ?_
      refine Sl.calm (Cm.move rfl) rfl ?_
      refine Sl.calm (Cm.ofEq (u := .slice lo M.length lc) (Cm.sliceH sl65 rfl rfl (by omega)) (by rw [cutAo_zero, hM, List.length_take, Nat.min_eq_left (by omega)]; rfl)) rfl ?_
      refine Sl.calm (Cm.assign rfl) rfl ?_
      refine Sl.nil ?_
      exact At.cut () ⟨rfl, rfl, trivial⟩ rfl
    ·
      refine Sl.nil ?_
      refine At.weak [(0, _), (2, _), (3, _), (15, _)] ⟨rfl, rfl, rfl, rfl, trivial⟩ ?_
      refine At.go ?_
      refine Sc.cond_f rfl ?_
      refine Sc.skip ?_
      exact At.cut () ⟨(by rw [hM, List.take_of_length_le (by omega)]; rfl), rfl, trivial⟩ rfl
  ·
    rintro _ wq hwq
    obtain rfl : w1 = wq := hwq.symm
    refine Sc.seq ?_
    refine Sc.region ?_
    refine Sl.calm (Cm.move rfl) rfl ?_
    refine Sl.call fn37 rfl (ids_ok lo lc M w1 (hv.keep hf1 (fun _ _ => id)) hok (by omega)) rfl ?_
    rintro _ w3 ⟨o3, c3, L, rfl, ho3, hfr3, hL3, hf3⟩
    have hv3 := hv.keep (hf1.trans hf3) (fun _ _ => id)
    have hoL := ho3.vw.len63
    have hov := ho3.vw
    refine Sl.calm (Cm.assign rfl) rfl ?_
    refine Sl.nil ?_
    refine At.weak [(0, _), (3, _), (4, _)] ⟨rfl, rfl, rfl, trivial⟩ ?_
    refine At.go ?_
    refine Sc.seq ?_
    refine Sc.seq ?_
    refine Sc.region ?_
    refine Sl.calm (Cm.assign rfl) rfl ?_
    refine Sl.nil ?_
    refine At.go ?_
    refine Sc.block ?_
    refine Sc.loop (β := Nat) (fun i => [(0, .slice lo M.length lc), (3, .bool true), (4, .slice o3 L.length c3), (5, .int .i64 i)]) (fun i w => i ≤ L.length ∧ Foot nob w3 w) (fun i => L.length - i) 0 ⟨rfl, rfl, rfl, rfl, trivial⟩ ⟨Nat.zero_le _, Foot.refl _ _⟩ ?_
    rintro i w2 ⟨hi, hF2⟩
    refine Sc.seq ?_
    refine Sc.seq ?_
    refine Sc.region ?_
    refine Sl.calm (Cm.move rfl) rfl ?_
    refine Sl.calm (Cm.move rfl) rfl ?_
    refine Sl.calm (Cm.len sl22 rfl) rfl ?_
    refine Sl.fork (Cm.lss rfl rfl) rfl (fun h23 => ?_) (fun h23 => ?_)
    ·
      have hiL : i < L.length := by omega
      have hzm : L.getD i 0 ∈ ownZ M := (hL3.2 _).1 (by rw [List.getD, List.getElem?_eq_getElem hiL]; exact List.getElem_mem _)
      refine Sl.nil ?_
      refine At.weak [(0, _), (3, _), (4, _), (5, _), (23, _)] ⟨rfl, rfl, rfl, rfl, rfl, trivial⟩ ?_
      refine At.go ?_
      refine Sc.cond_t rfl ?_
      refine Sc.skip ?_
      refine At.go ?_
      refine Sc.seq ?_
      refine Sc.block ?_
      refine Sc.seq ?_
      refine Sc.region ?_
      refine Sl.calm (Cm.assign rfl) rfl ?_
      refine Sl.nil ?_
      refine At.go ?_
      refine Sc.seq ?_
      refine Sc.seq ?_
      refine Sc.region ?_
      refine Sl.calm (Cm.assign rfl) rfl ?_
      refine Sl.nil ?_
      refine At.go ?_
      refine Sc.block ?_
      refine Sc.loop (β := Nat) (fun k => [(0, .slice lo M.length lc), (3, .bool true), (4, .slice o3 L.length c3), (5, .int .i64 i), (6, .bool (decide (L.getD i 0 ∈ ownZ (M.take k)))), (7, .int .i64 k)]) (fun k w => k ≤ M.length ∧ Foot nob w3 w) (fun k => M.length - k) 0 ⟨rfl, rfl, rfl, rfl, (congrArg (fun b => some (Value.bool b)) (decide_eq_false (by simp [ownZ])).symm), rfl, trivial⟩ ⟨Nat.zero_le _, hF2⟩ ?_
      rintro k w2 ⟨hk, hF2⟩
      refine Sc.seq ?_
      refine Sc.seq ?_
      refine Sc.region ?_
      refine Sl.calm (Cm.move rfl) rfl ?_
      refine Sl.calm (Cm.move rfl) rfl ?_
      refine Sl.calm (Cm.len sl65 rfl) rfl ?_
      refine Sl.fork (Cm.lss rfl rfl) rfl (fun h29 => ?_) (fun h29 => ?_)
      ·
        have hkM : k < M.length := by omega
        obtain ⟨p, hp⟩ : ∃ p, M[k]? = some p := ⟨_, List.getElem?_eq_getElem hkM⟩
        have hst := ownZ_takeS hp (z := L.getD i 0)
        refine Sl.nil ?_
        refine At.weak [(0, _), (3, _), (4, _), (5, _), (6, _), (7, _), (29, _)] ⟨rfl, rfl, rfl, rfl, rfl, rfl, rfl, trivial⟩ ?_
        refine At.go ?_
        refine Sc.cond_t rfl ?_
        refine Sc.skip ?_
        refine At.go ?_
        refine Sc.seq ?_
        refine Sc.block ?_
        refine Sc.draw 28 (fun H => VwM 10 encN H lo lc M ∧ Vw i64 H o3 c3 L) [] [0, 1, 2, 3, 4, 5, 6, 7, 8, 9, 10, 11, 12, 13, 14, 15, 16, 17, 18, 19, 20, 21, 22, 23, 24, 25, 26, 27] mixed (by kernel_rfl) (⟨hv3.keep hF2 (fun _ _ => id), hov.grow hF2⟩) ?_
        refine Sx.fork rfl rfl (Cm.ofBool (Cm.move rfl)) rfl (fun h32 => ?_) (fun h32 => ?_)
        ·
          have h32 := of_decide_eq_true h32
          refine Sx.calm rfl rfl (Cm.move rfl) rfl ?_
          refine Sx.skip rfl rfl rfl rfl rfl rfl ?_
          refine Sx.skip rfl rfl rfl rfl rfl rfl ?_
          refine Sx.skip rfl rfl rfl rfl rfl rfl ?_
          refine Sx.skip rfl rfl rfl rfl rfl rfl ?_
          refine Sx.skip rfl rfl rfl rfl rfl rfl ?_
          refine Sx.skip rfl rfl rfl rfl rfl rfl ?_
          refine Sx.skip rfl rfl rfl rfl rfl rfl ?_
          refine Sx.skip rfl rfl rfl rfl rfl rfl ?_
          refine Sx.skip rfl rfl rfl rfl rfl rfl ?_
          refine Sx.skip rfl rfl rfl rfl rfl rfl ?_
          refine Sx.skip rfl rfl rfl rfl rfl rfl ?_
          refine Sx.calm rfl rfl (Cm.pick_t rfl rfl) rfl ?_
          refine Sx.calm rfl rfl (Cm.move rfl) rfl ?_
          refine Sx.skip rfl rfl rfl rfl rfl rfl ?_
          refine Sx.skip rfl rfl rfl rfl rfl rfl ?_
          refine Sx.skip rfl rfl rfl rfl rfl rfl ?_
          refine Sx.skip rfl rfl rfl rfl rfl rfl ?_
          refine Sx.skip rfl rfl rfl rfl rfl rfl ?_
          refine Sx.skip rfl rfl rfl rfl rfl rfl ?_
          refine Sx.skip rfl rfl rfl rfl rfl rfl ?_
          refine Sx.skip rfl rfl rfl rfl rfl rfl ?_
          refine Sx.skip rfl rfl rfl rfl rfl rfl ?_
          refine Sx.skip rfl rfl rfl rfl rfl rfl ?_
          refine Sx.skip rfl rfl rfl rfl rfl rfl ?_
          refine Sx.calm rfl rfl (Cm.pick_t rfl rfl) rfl ?_
          refine Sx.calm rfl rfl (Cm.assign rfl) rfl ?_
          refine Sx.nil ?_
          refine At.block_normal ?_
          refine At.weak [(0, _), (3, _), (4, _), (5, _), (6, _), (7, _), (29, _)] ⟨rfl, rfl, rfl, rfl, rfl, rfl, rfl, trivial⟩ ?_
          refine At.go ?_
          refine Sc.region ?_
          refine Sl.calm (Cm.move rfl) rfl ?_
          refine Sl.calm (Cm.add64 rfl rfl (by omega)) rfl ?_
          refine Sl.calm (Cm.assign rfl) rfl ?_
          refine Sl.nil ?_
          exact At.again (k + 1) ⟨rfl, rfl, rfl, rfl, congrArg (fun b => some (Value.bool b)) (decide_eq_true (hst.2 (by first | exact .inl h32 | exact .inr (.inl h44.symm) | exact .inr (.inr h57.symm)))).symm, rfl, trivial⟩ ⟨by omega, hF2.draws 1⟩ (by show M.length - (k + 1) < M.length - k; omega)
        ·
          have h32 : ¬ L.getD i 0 ∈ ownZ (M.take k) := fun h => h32 (decide_eq_true h)
          refine Sx.calm rfl rfl (Cm.move rfl) rfl ?_
          refine Sx.want rfl rfl rfl rfl (Cm.move rfl) rfl ?_
          refine Sx.want rfl rfl rfl rfl (Cm.move rfl) rfl ?_
          refine Sx.want rfl rfl rfl rfl (Cm.indexAddr sl65 rfl rfl hv3.non (by omega)) rfl ?_
          refine Sx.want rfl rfl rfl rfl (Cm.field fld72_3 rfl) rfl ?_
          refine Sx.want rfl rfl rfl rfl (Cm.field fld69_1 rfl) rfl ?_
          refine Sx.want rfl rfl rfl rfl (Cm.load sca3 rfl (fun H hH => by rw [add2]; exact hH.1.rowZ k rfl hp 4 _ rfl)) rfl ?_
          refine Sx.want rfl rfl rfl rfl (Cm.move rfl) rfl ?_
          refine Sx.want rfl rfl rfl rfl (Cm.move rfl) rfl ?_
          refine Sx.want rfl rfl rfl rfl (Cm.indexAddr1 sl22 rfl rfl hov.non (by omega)) rfl ?_
          refine Sx.want rfl rfl rfl rfl (Cm.load sca3 rfl (fun H hH => hH.2.gz 0 i rfl (by omega))) rfl ?_
          refine Sx.forkWant rfl rfl rfl rfl (Cm.eql rfl rfl) rfl (fun h44 => ?_) (fun h44 => ?_)
          ·
            refine Sx.calm rfl rfl (Cm.pick_f rfl rfl) rfl ?_
            refine Sx.calm rfl rfl (Cm.move rfl) rfl ?_
            refine Sx.skip rfl rfl rfl rfl rfl rfl ?_
            refine Sx.skip rfl rfl rfl rfl rfl rfl ?_
            refine Sx.skip rfl rfl rfl rfl rfl rfl ?_
            refine Sx.skip rfl rfl rfl rfl rfl rfl ?_
            refine Sx.skip rfl rfl rfl rfl rfl rfl ?_
            refine Sx.skip rfl rfl rfl rfl rfl rfl ?_
            refine Sx.skip rfl rfl rfl rfl rfl rfl ?_
            refine Sx.skip rfl rfl rfl rfl rfl rfl ?_
            refine Sx.skip rfl rfl rfl rfl rfl rfl ?_
            refine Sx.skip rfl rfl rfl rfl rfl rfl ?_
            refine Sx.skip rfl rfl rfl rfl rfl rfl ?_
            refine Sx.calm rfl rfl (Cm.pick_t rfl rfl) rfl ?_
            refine Sx.calm rfl rfl (Cm.assign rfl) rfl ?_
            refine Sx.nil ?_
            refine At.block_normal ?_
            refine At.weak [(0, _), (3, _), (4, _), (5, _), (6, _), (7, _), (29, _)] ⟨rfl, rfl, rfl, rfl, rfl, rfl, rfl, trivial⟩ ?_
            refine At.go ?_
            refine Sc.region ?_
            refine Sl.calm (Cm.move rfl) rfl ?_
            refine Sl.calm (Cm.add64 rfl rfl (by omega)) rfl ?_
            refine Sl.calm (Cm.assign rfl) rfl ?_
            refine Sl.nil ?_
            exact At.again (k + 1) ⟨rfl, rfl, rfl, rfl, congrArg (fun b => some (Value.bool b)) (decide_eq_true (hst.2 (by first | exact .inl h32 | exact .inr (.inl h44.symm) | exact .inr (.inr h57.symm)))).symm, rfl, trivial⟩ ⟨by omega, hF2.draws 1⟩ (by show M.length - (k + 1) < M.length - k; omega)
          ·
            refine Sx.calm rfl rfl (Cm.pick_f rfl rfl) rfl ?_
            refine Sx.calm rfl rfl (Cm.move rfl) rfl ?_
            refine Sx.want rfl rfl rfl rfl (Cm.move rfl) rfl ?_
            refine Sx.want rfl rfl rfl rfl (Cm.move rfl) rfl ?_
            refine Sx.want rfl rfl rfl rfl (Cm.indexAddr sl65 rfl rfl hv3.non (by omega)) rfl ?_
            refine Sx.want rfl rfl rfl rfl (Cm.field fld72_3 rfl) rfl ?_
            refine Sx.want rfl rfl rfl rfl (Cm.field fld69_2 rfl) rfl ?_
            refine Sx.want rfl rfl rfl rfl (Cm.load sca3 rfl (fun H hH => by rw [add2]; exact hH.1.rowZ k rfl hp 5 _ rfl)) rfl ?_
            refine Sx.want rfl rfl rfl rfl (Cm.move rfl) rfl ?_
            refine Sx.want rfl rfl rfl rfl (Cm.move rfl) rfl ?_
            refine Sx.want rfl rfl rfl rfl (Cm.indexAddr1 sl22 rfl rfl hov.non (by omega)) rfl ?_
            refine Sx.want rfl rfl rfl rfl (Cm.load sca3 rfl (fun H hH => hH.2.gz 0 i rfl (by omega))) rfl ?_
            refine Sx.forkWant rfl rfl rfl rfl (Cm.eql rfl rfl) rfl (fun h57 => ?_) (fun h57 => ?_)
            ·
              refine Sx.calm rfl rfl (Cm.pick_f rfl rfl) rfl ?_
              refine Sx.calm rfl rfl (Cm.assign rfl) rfl ?_
              refine Sx.nil ?_
              refine At.block_normal ?_
              refine At.weak [(0, _), (3, _), (4, _), (5, _), (6, _), (7, _), (29, _)] ⟨rfl, rfl, rfl, rfl, rfl, rfl, rfl, trivial⟩ ?_
              refine At.go ?_
              refine Sc.region ?_
              refine Sl.calm (Cm.move rfl) rfl ?_
              refine Sl.calm (Cm.add64 rfl rfl (by omega)) rfl ?_
              refine Sl.calm (Cm.assign rfl) rfl ?_
              refine Sl.nil ?_
              exact At.again (k + 1) ⟨rfl, rfl, rfl, rfl, congrArg (fun b => some (Value.bool b)) (decide_eq_true (hst.2 (by first | exact .inl h32 | exact .inr (.inl h44.symm) | exact .inr (.inr h57.symm)))).symm, rfl, trivial⟩ ⟨by omega, hF2.draws 1⟩ (by show M.length - (k + 1) < M.length - k; omega)
            ·
              refine Sx.calm rfl rfl (Cm.pick_f rfl rfl) rfl ?_
              refine Sx.calm rfl rfl (Cm.assign rfl) rfl ?_
              refine Sx.nil ?_
              refine At.block_normal ?_
              refine At.weak [(0, _), (3, _), (4, _), (5, _), (6, _), (7, _), (29, _)] ⟨rfl, rfl, rfl, rfl, rfl, rfl, rfl, trivial⟩ ?_
              refine At.go ?_
              refine Sc.region ?_
              refine Sl.calm (Cm.move rfl) rfl ?_
              refine Sl.calm (Cm.add64 rfl rfl (by omega)) rfl ?_
              refine Sl.calm (Cm.assign rfl) rfl ?_
              refine Sl.nil ?_
              exact At.again (k + 1) ⟨rfl, rfl, rfl, rfl, congrArg (fun b => some (Value.bool b)) (decide_eq_false (fun h => by rcases hst.1 h with h | h | h; exact h32 h; exact h44 h.symm; exact h57 h.symm)).symm, rfl, trivial⟩ ⟨by omega, hF2.draws 1⟩ (by show M.length - (k + 1) < M.length - k; omega)
      ·
        have hke : k = M.length := by omega
        subst hke
        refine Sl.nil ?_
        refine At.weak [(0, _), (3, _), (4, _), (5, _), (6, _), (7, _), (29, _)] ⟨rfl, rfl, rfl, rfl, rfl, rfl, rfl, trivial⟩ ?_
        refine At.go ?_
        refine Sc.cond_f rfl ?_
        refine Sc.exit ?_
        refine At.then_exit ?_
        refine At.then_exit ?_
        refine At.block_hit ?_
        refine At.go ?_
        refine Sc.seq ?_
        refine Sc.draw 18 (fun H => Vw i64 H o3 c3 L) [] [0, 1, 2, 3, 4, 5, 6, 7, 8, 9, 10, 11, 12, 13, 14, 15, 16, 17] mixed (by kernel_rfl) (hov.grow hF2) ?_
        refine Sx.calm rfl rfl (Cm.move rfl) rfl ?_
        refine Sx.fork rfl rfl (Cm.notB rfl) rfl (fun h60 => ?_) (fun h60 => ?_)
        ·
          exact absurd h60 (by rw [List.take_length, decide_eq_true hzm]; decide)
        ·
          refine Sx.calm rfl rfl (Cm.move rfl) rfl ?_
          refine Sx.want rfl rfl rfl rfl (Cm.move rfl) rfl ?_
          refine Sx.forkWant rfl rfl rfl rfl (Cm.gtr rfl rfl) rfl (fun h63 => ?_) (fun h63 => ?_)
          ·
            refine Sx.want rfl rfl rfl rfl (Cm.move rfl) rfl ?_
            refine Sx.want rfl rfl rfl rfl (Cm.move rfl) rfl ?_
            refine Sx.want rfl rfl rfl rfl (Cm.move rfl) rfl ?_
            refine Sx.want rfl rfl rfl rfl (Cm.sub64 rfl rfl (by omega)) rfl ?_
            refine Sx.want rfl rfl rfl rfl (Cm.indexAddr1 sl22 rfl rfl hov.non (by omega)) rfl ?_
            refine Sx.want rfl rfl rfl rfl (Cm.load sca3 rfl (fun H hH => hH.gz 0 (i - 1) (by omega) (by omega))) rfl ?_
            refine Sx.want rfl rfl rfl rfl (Cm.move rfl) rfl ?_
            refine Sx.want rfl rfl rfl rfl (Cm.move rfl) rfl ?_
            refine Sx.want rfl rfl rfl rfl (Cm.indexAddr1 sl22 rfl rfl hov.non (by omega)) rfl ?_
            refine Sx.want rfl rfl rfl rfl (Cm.load sca3 rfl (fun H hH => hH.gz 0 i rfl (by omega))) rfl ?_
            refine Sx.want rfl rfl rfl rfl (Cm.no (Cm.geq rfl rfl) (fun h => by have h2 := List.pairwise_iff_getElem.1 hL3.1 (i - 1) i (by omega) (by omega) (by omega); simp only [List.getD, List.getElem?_eq_getElem (show i - 1 < L.length by omega), List.getElem?_eq_getElem hiL, Option.getD_some] at h; omega)) rfl ?_
            refine Sx.want rfl rfl rfl rfl (Cm.pick_t rfl rfl) rfl ?_
            refine Sx.calm rfl rfl (Cm.pick_f rfl rfl) rfl ?_
            refine Sx.nil ?_
            refine At.weak [(0, _), (3, _), (4, _), (5, _), (6, _), (7, _), (29, _), (76, _)] ⟨rfl, rfl, rfl, rfl, rfl, rfl, rfl, rfl, trivial⟩ ?_
            refine At.go ?_
            refine Sc.cond_f rfl ?_
            refine Sc.skip ?_
            refine At.block_normal ?_
            refine At.go ?_
            refine Sc.region ?_
            refine Sl.calm (Cm.move rfl) rfl ?_
            refine Sl.calm (Cm.add64 rfl rfl (by omega)) rfl ?_
            refine Sl.calm (Cm.assign rfl) rfl ?_
            refine Sl.nil ?_
            exact At.again (i + 1) ⟨rfl, rfl, rfl, rfl, trivial⟩ ⟨by omega, hF2.draws 1⟩ (by show L.length - (i + 1) < L.length - i; omega)
          ·
            refine Sx.want rfl rfl rfl rfl (Cm.move rfl) rfl ?_
            refine Sx.skip rfl rfl rfl rfl rfl rfl ?_
            refine Sx.skip rfl rfl rfl rfl rfl rfl ?_
            refine Sx.skip rfl rfl rfl rfl rfl rfl ?_
            refine Sx.skip rfl rfl rfl rfl rfl rfl ?_
            refine Sx.skip rfl rfl rfl rfl rfl rfl ?_
            refine Sx.skip rfl rfl rfl rfl rfl rfl ?_
            refine Sx.skip rfl rfl rfl rfl rfl rfl ?_
            refine Sx.skip rfl rfl rfl rfl rfl rfl ?_
            refine Sx.skip rfl rfl rfl rfl rfl rfl ?_
            refine Sx.skip rfl rfl rfl rfl rfl rfl ?_
            refine Sx.want rfl rfl rfl rfl (Cm.pick_f rfl rfl) rfl ?_
            refine Sx.calm rfl rfl (Cm.pick_f rfl rfl) rfl ?_
            refine Sx.nil ?_
            refine At.weak [(0, _), (3, _), (4, _), (5, _), (6, _), (7, _), (29, _), (76, _)] ⟨rfl, rfl, rfl, rfl, rfl, rfl, rfl, rfl, trivial⟩ ?_
            refine At.go ?_
            refine Sc.cond_f rfl ?_
            refine Sc.skip ?_
            refine At.block_normal ?_
            refine At.go ?_
            refine Sc.region ?_
            refine Sl.calm (Cm.move rfl) rfl ?_
            refine Sl.calm (Cm.add64 rfl rfl (by omega)) rfl ?_
            refine Sl.calm (Cm.assign rfl) rfl ?_
            refine Sl.nil ?_
            exact At.again (i + 1) ⟨rfl, rfl, rfl, rfl, trivial⟩ ⟨by omega, hF2.draws 1⟩ (by show L.length - (i + 1) < L.length - i; omega)
    ·
      refine Sl.nil ?_
      refine At.weak [(0, _), (3, _), (4, _), (5, _), (23, _)] ⟨rfl, rfl, rfl, rfl, rfl, trivial⟩ ?_
      refine At.go ?_
      refine Sc.cond_f rfl ?_
      refine Sc.exit ?_
      refine At.then_exit ?_
      refine At.then_exit ?_
      refine At.block_hit ?_
      refine At.go ?_
      refine Sc.seq ?_
      refine Sc.seq ?_
      refine Sc.region ?_
      refine Sl.calm (Cm.assign rfl) rfl ?_
      refine Sl.nil ?_
      refine At.go ?_
      refine Sc.block ?_
      refine Sc.loop (β := Nat) (fun k => [(0, .slice lo M.length lc), (3, .bool true), (4, .slice o3 L.length c3), (8, .int .i64 k)]) (fun k w => k ≤ M.length ∧ Foot nob w3 w) (fun k => M.length - k) 0 ⟨rfl, rfl, rfl, rfl, trivial⟩ ⟨Nat.zero_le _, hF2⟩ ?_
      rintro k w2 ⟨hk, hF2⟩
      refine Sc.seq ?_
      refine Sc.seq ?_
      refine Sc.region ?_
      refine Sl.calm (Cm.move rfl) rfl ?_
      refine Sl.calm (Cm.move rfl) rfl ?_
      refine Sl.calm (Cm.len sl65 rfl) rfl ?_
      refine Sl.fork (Cm.lss rfl rfl) rfl (fun h80 => ?_) (fun h80 => ?_)
      ·
        have hkM : k < M.length := by omega
        obtain ⟨p, hp⟩ : ∃ p, M[k]? = some p := ⟨_, List.getElem?_eq_getElem hkM⟩
        have hpm := List.mem_of_getElem? hp
        have hum : p.2.ud ∈ L := (hL3.2 _).2 (ownZ_mem.2 ⟨p, hpm, .inl rfl⟩)
        have hgm : p.2.gd ∈ L := (hL3.2 _).2 (ownZ_mem.2 ⟨p, hpm, .inr rfl⟩)
        refine Sl.nil ?_
        refine At.weak [(0, _), (3, _), (4, _), (8, _), (80, _)] ⟨rfl, rfl, rfl, rfl, rfl, trivial⟩ ?_
        refine At.go ?_
        refine Sc.cond_t rfl ?_
        refine Sc.skip ?_
        refine At.go ?_
        refine Sc.seq ?_
        refine Sc.block ?_
        refine Sc.seq ?_
        refine Sc.region ?_
        refine Sl.calm (Cm.assign rfl) rfl ?_
        refine Sl.nil ?_
        refine At.go ?_
        refine Sc.seq ?_
        refine Sc.region ?_
        refine Sl.calm (Cm.assign rfl) rfl ?_
        refine Sl.nil ?_
        refine At.go ?_
        refine Sc.seq ?_
        refine Sc.seq ?_
        refine Sc.region ?_
        refine Sl.calm (Cm.assign rfl) rfl ?_
        refine Sl.nil ?_
        refine At.go ?_
        refine Sc.block ?_
        refine Sc.loop (β := Nat) (fun i => [(0, .slice lo M.length lc), (3, .bool true), (4, .slice o3 L.length c3), (8, .int .i64 k), (9, .bool (decide (p.2.ud ∈ L.take i))), (10, .bool (decide (p.2.gd ∈ L.take i))), (11, .int .i64 i)]) (fun i w => i ≤ L.length ∧ Foot nob w3 w) (fun i => L.length - i) 0 ⟨rfl, rfl, rfl, rfl, (congrArg (fun b => some (Value.bool b)) (decide_eq_false (by simp)).symm), (congrArg (fun b => some (Value.bool b)) (decide_eq_false (by simp)).symm), rfl, trivial⟩ ⟨Nat.zero_le _, hF2⟩ ?_
        rintro i w2 ⟨hi, hF2⟩
        refine Sc.seq ?_
        refine Sc.seq ?_
        refine Sc.region ?_
        refine Sl.calm (Cm.move rfl) rfl ?_
        refine Sl.calm (Cm.move rfl) rfl ?_
        refine Sl.calm (Cm.len sl22 rfl) rfl ?_
        refine Sl.fork (Cm.lss rfl rfl) rfl (fun h86 => ?_) (fun h86 => ?_)
        ·
          have hiL : i < L.length := by omega
          have hsu := takeZ hiL (z := p.2.ud)
          have hsg := takeZ hiL (z := p.2.gd)
          refine Sl.nil ?_
          refine At.weak [(0, _), (3, _), (4, _), (8, _), (9, _), (10, _), (11, _), (86, _)] ⟨rfl, rfl, rfl, rfl, rfl, rfl, rfl, rfl, trivial⟩ ?_
          refine At.go ?_
          refine Sc.cond_t rfl ?_
          refine Sc.skip ?_
          refine At.go ?_
          refine Sc.seq ?_
          refine Sc.block ?_
          refine Sc.seq ?_
          refine Sc.draw 15 (fun H => VwM 10 encN H lo lc M ∧ Vw i64 H o3 c3 L) [] [0, 1, 2, 3, 4, 5, 6, 7, 8, 9, 10, 11, 12, 13, 14] mixed (by kernel_rfl) (⟨hv3.keep hF2 (fun _ _ => id), hov.grow hF2⟩) ?_
          refine Sx.fork rfl rfl (Cm.ofBool (Cm.move rfl)) rfl (fun h89 => ?_) (fun h89 => ?_)
          ·
            have h89 := of_decide_eq_true h89
            refine Sx.calm rfl rfl (Cm.move rfl) rfl ?_
            refine Sx.skip rfl rfl rfl rfl rfl rfl ?_
            refine Sx.skip rfl rfl rfl rfl rfl rfl ?_
            refine Sx.skip rfl rfl rfl rfl rfl rfl ?_
            refine Sx.skip rfl rfl rfl rfl rfl rfl ?_
            refine Sx.skip rfl rfl rfl rfl rfl rfl ?_
            refine Sx.skip rfl rfl rfl rfl rfl rfl ?_
            refine Sx.skip rfl rfl rfl rfl rfl rfl ?_
            refine Sx.skip rfl rfl rfl rfl rfl rfl ?_
            refine Sx.skip rfl rfl rfl rfl rfl rfl ?_
            refine Sx.skip rfl rfl rfl rfl rfl rfl ?_
            refine Sx.skip rfl rfl rfl rfl rfl rfl ?_
            refine Sx.calm rfl rfl (Cm.pick_t rfl rfl) rfl ?_
            refine Sx.calm rfl rfl (Cm.assign rfl) rfl ?_
            refine Sx.nil ?_
            refine At.weak [(0, _), (3, _), (4, _), (8, _), (9, _), (10, _), (11, _), (86, _)] ⟨rfl, rfl, rfl, rfl, rfl, rfl, rfl, rfl, trivial⟩ ?_
            refine At.go ?_
            refine Sc.draw 15 (fun H => VwM 10 encN H lo lc M ∧ Vw i64 H o3 c3 L) [] [0, 1, 2, 3, 4, 5, 6, 7, 8, 9, 10, 11, 12, 13, 14] mixed (by kernel_rfl) (⟨hv3.keep (hF2.draws 1) (fun _ _ => id), hov.grow (hF2.draws 1)⟩) ?_
            refine Sx.fork rfl rfl (Cm.ofBool (Cm.move rfl)) rfl (fun h103 => ?_) (fun h103 => ?_)
            ·
              have h103 := of_decide_eq_true h103
              refine Sx.calm rfl rfl (Cm.move rfl) rfl ?_
              refine Sx.skip rfl rfl rfl rfl rfl rfl ?_
              refine Sx.skip rfl rfl rfl rfl rfl rfl ?_
              refine Sx.skip rfl rfl rfl rfl rfl rfl ?_
              refine Sx.skip rfl rfl rfl rfl rfl rfl ?_
              refine Sx.skip rfl rfl rfl rfl rfl rfl ?_
              refine Sx.skip rfl rfl rfl rfl rfl rfl ?_
              refine Sx.skip rfl rfl rfl rfl rfl rfl ?_
              refine Sx.skip rfl rfl rfl rfl rfl rfl ?_
              refine Sx.skip rfl rfl rfl rfl rfl rfl ?_
              refine Sx.skip rfl rfl rfl rfl rfl rfl ?_
              refine Sx.skip rfl rfl rfl rfl rfl rfl ?_
              refine Sx.calm rfl rfl (Cm.pick_t rfl rfl) rfl ?_
              refine Sx.calm rfl rfl (Cm.assign rfl) rfl ?_
              refine Sx.nil ?_
              refine At.block_normal ?_
              refine At.weak [(0, _), (3, _), (4, _), (8, _), (9, _), (10, _), (11, _), (86, _)] ⟨rfl, rfl, rfl, rfl, rfl, rfl, rfl, rfl, trivial⟩ ?_
              refine At.go ?_
              refine Sc.region ?_
              refine Sl.calm (Cm.move rfl) rfl ?_
              refine Sl.calm (Cm.add64 rfl rfl (by omega)) rfl ?_
              refine Sl.calm (Cm.assign rfl) rfl ?_
              refine Sl.nil ?_
              exact At.again (i + 1) ⟨rfl, rfl, rfl, rfl, congrArg (fun b => some (Value.bool b)) (decide_eq_true (hsu.2 (by first | exact .inl h89 | exact .inr h101.symm))).symm, congrArg (fun b => some (Value.bool b)) (decide_eq_true (hsg.2 (by first | exact .inl h103 | exact .inr h115.symm))).symm, rfl, trivial⟩ ⟨by omega, (hF2.draws 1).draws 1⟩ (by show L.length - (i + 1) < L.length - i; omega)
            ·
              have h103 : ¬ p.2.gd ∈ L.take i := fun h => h103 (decide_eq_true h)
              refine Sx.calm rfl rfl (Cm.move rfl) rfl ?_
              refine Sx.want rfl rfl rfl rfl (Cm.move rfl) rfl ?_
              refine Sx.want rfl rfl rfl rfl (Cm.move rfl) rfl ?_
              refine Sx.want rfl rfl rfl rfl (Cm.indexAddr1 sl22 rfl rfl hov.non (by omega)) rfl ?_
              refine Sx.want rfl rfl rfl rfl (Cm.load sca3 rfl (fun H hH => hH.2.gz 0 i rfl (by omega))) rfl ?_
              refine Sx.want rfl rfl rfl rfl (Cm.move rfl) rfl ?_
              refine Sx.want rfl rfl rfl rfl (Cm.move rfl) rfl ?_
              refine Sx.want rfl rfl rfl rfl (Cm.indexAddr sl65 rfl rfl hv3.non (by omega)) rfl ?_
              refine Sx.want rfl rfl rfl rfl (Cm.field fld72_3 rfl) rfl ?_
              refine Sx.want rfl rfl rfl rfl (Cm.field fld69_2 rfl) rfl ?_
              refine Sx.want rfl rfl rfl rfl (Cm.load sca3 rfl (fun H hH => by rw [add2]; exact hH.1.rowZ k rfl hp 5 _ rfl)) rfl ?_
              refine Sx.forkWant rfl rfl rfl rfl (Cm.eql rfl rfl) rfl (fun h115 => ?_) (fun h115 => ?_)
              ·
                refine Sx.calm rfl rfl (Cm.pick_f rfl rfl) rfl ?_
                refine Sx.calm rfl rfl (Cm.assign rfl) rfl ?_
                refine Sx.nil ?_
                refine At.block_normal ?_
                refine At.weak [(0, _), (3, _), (4, _), (8, _), (9, _), (10, _), (11, _), (86, _)] ⟨rfl, rfl, rfl, rfl, rfl, rfl, rfl, rfl, trivial⟩ ?_
                refine At.go ?_
                refine Sc.region ?_
                refine Sl.calm (Cm.move rfl) rfl ?_
                refine Sl.calm (Cm.add64 rfl rfl (by omega)) rfl ?_
                refine Sl.calm (Cm.assign rfl) rfl ?_
                refine Sl.nil ?_
                exact At.again (i + 1) ⟨rfl, rfl, rfl, rfl, congrArg (fun b => some (Value.bool b)) (decide_eq_true (hsu.2 (by first | exact .inl h89 | exact .inr h101.symm))).symm, congrArg (fun b => some (Value.bool b)) (decide_eq_true (hsg.2 (by first | exact .inl h103 | exact .inr h115.symm))).symm, rfl, trivial⟩ ⟨by omega, (hF2.draws 1).draws 1⟩ (by show L.length - (i + 1) < L.length - i; omega)
              ·
                refine Sx.calm rfl rfl (Cm.pick_f rfl rfl) rfl ?_
                refine Sx.calm rfl rfl (Cm.assign rfl) rfl ?_
                refine Sx.nil ?_
                refine At.block_normal ?_
                refine At.weak [(0, _), (3, _), (4, _), (8, _), (9, _), (10, _), (11, _), (86, _)] ⟨rfl, rfl, rfl, rfl, rfl, rfl, rfl, rfl, trivial⟩ ?_
                refine At.go ?_
                refine Sc.region ?_
                refine Sl.calm (Cm.move rfl) rfl ?_
                refine Sl.calm (Cm.add64 rfl rfl (by omega)) rfl ?_
                refine Sl.calm (Cm.assign rfl) rfl ?_
                refine Sl.nil ?_
                exact At.again (i + 1) ⟨rfl, rfl, rfl, rfl, congrArg (fun b => some (Value.bool b)) (decide_eq_true (hsu.2 (by first | exact .inl h89 | exact .inr h101.symm))).symm, congrArg (fun b => some (Value.bool b)) (decide_eq_false (fun h => by rcases hsg.1 h with h | h; exact h103 h; exact h115 h.symm)).symm, rfl, trivial⟩ ⟨by omega, (hF2.draws 1).draws 1⟩ (by show L.length - (i + 1) < L.length - i; omega)
          ·
            have h89 : ¬ p.2.ud ∈ L.take i := fun h => h89 (decide_eq_true h)
            refine Sx.calm rfl rfl (Cm.move rfl) rfl ?_
            refine Sx.want rfl rfl rfl rfl (Cm.move rfl) rfl ?_
            refine Sx.want rfl rfl rfl rfl (Cm.move rfl) rfl ?_
            refine Sx.want rfl rfl rfl rfl (Cm.indexAddr1 sl22 rfl rfl hov.non (by omega)) rfl ?_
            refine Sx.want rfl rfl rfl rfl (Cm.load sca3 rfl (fun H hH => hH.2.gz 0 i rfl (by omega))) rfl ?_
            refine Sx.want rfl rfl rfl rfl (Cm.move rfl) rfl ?_
            refine Sx.want rfl rfl rfl rfl (Cm.move rfl) rfl ?_
            refine Sx.want rfl rfl rfl rfl (Cm.indexAddr sl65 rfl rfl hv3.non (by omega)) rfl ?_
            refine Sx.want rfl rfl rfl rfl (Cm.field fld72_3 rfl) rfl ?_
            refine Sx.want rfl rfl rfl rfl (Cm.field fld69_1 rfl) rfl ?_
            refine Sx.want rfl rfl rfl rfl (Cm.load sca3 rfl (fun H hH => by rw [add2]; exact hH.1.rowZ k rfl hp 4 _ rfl)) rfl ?_
            refine Sx.forkWant rfl rfl rfl rfl (Cm.eql rfl rfl) rfl (fun h101 => ?_) (fun h101 => ?_)
            ·
              refine Sx.calm rfl rfl (Cm.pick_f rfl rfl) rfl ?_
              refine Sx.calm rfl rfl (Cm.assign rfl) rfl ?_
              refine Sx.nil ?_
              refine At.weak [(0, _), (3, _), (4, _), (8, _), (9, _), (10, _), (11, _), (86, _)] ⟨rfl, rfl, rfl, rfl, rfl, rfl, rfl, rfl, trivial⟩ ?_
              refine At.go ?_
              refine Sc.draw 15 (fun H => VwM 10 encN H lo lc M ∧ Vw i64 H o3 c3 L) [] [0, 1, 2, 3, 4, 5, 6, 7, 8, 9, 10, 11, 12, 13, 14] mixed (by kernel_rfl) (⟨hv3.keep (hF2.draws 1) (fun _ _ => id), hov.grow (hF2.draws 1)⟩) ?_
              refine Sx.fork rfl rfl (Cm.ofBool (Cm.move rfl)) rfl (fun h103 => ?_) (fun h103 => ?_)
              ·
                have h103 := of_decide_eq_true h103
                refine Sx.calm rfl rfl (Cm.move rfl) rfl ?_
                refine Sx.skip rfl rfl rfl rfl rfl rfl ?_
                refine Sx.skip rfl rfl rfl rfl rfl rfl ?_
                refine Sx.skip rfl rfl rfl rfl rfl rfl ?_
                refine Sx.skip rfl rfl rfl rfl rfl rfl ?_
                refine Sx.skip rfl rfl rfl rfl rfl rfl ?_
                refine Sx.skip rfl rfl rfl rfl rfl rfl ?_
                refine Sx.skip rfl rfl rfl rfl rfl rfl ?_
                refine Sx.skip rfl rfl rfl rfl rfl rfl ?_
                refine Sx.skip rfl rfl rfl rfl rfl rfl ?_
                refine Sx.skip rfl rfl rfl rfl rfl rfl ?_
                refine Sx.skip rfl rfl rfl rfl rfl rfl ?_
                refine Sx.calm rfl rfl (Cm.pick_t rfl rfl) rfl ?_
                refine Sx.calm rfl rfl (Cm.assign rfl) rfl ?_
                refine Sx.nil ?_
                refine At.block_normal ?_
                refine At.weak [(0, _), (3, _), (4, _), (8, _), (9, _), (10, _), (11, _), (86, _)] ⟨rfl, rfl, rfl, rfl, rfl, rfl, rfl, rfl, trivial⟩ ?_
                refine At.go ?_
                refine Sc.region ?_
                refine Sl.calm (Cm.move rfl) rfl ?_
                refine Sl.calm (Cm.add64 rfl rfl (by omega)) rfl ?_
                refine Sl.calm (Cm.assign rfl) rfl ?_
                refine Sl.nil ?_
                exact At.again (i + 1) ⟨rfl, rfl, rfl, rfl, congrArg (fun b => some (Value.bool b)) (decide_eq_true (hsu.2 (by first | exact .inl h89 | exact .inr h101.symm))).symm, congrArg (fun b => some (Value.bool b)) (decide_eq_true (hsg.2 (by first | exact .inl h103 | exact .inr h115.symm))).symm, rfl, trivial⟩ ⟨by omega, (hF2.draws 1).draws 1⟩ (by show L.length - (i + 1) < L.length - i; omega)
              ·
                have h103 : ¬ p.2.gd ∈ L.take i := fun h => h103 (decide_eq_true h)
                refine Sx.calm rfl rfl (Cm.move rfl) rfl ?_
                refine Sx.want rfl rfl rfl rfl (Cm.move rfl) rfl ?_
                refine Sx.want rfl rfl rfl rfl (Cm.move rfl) rfl ?_
                refine Sx.want rfl rfl rfl rfl (Cm.indexAddr1 sl22 rfl rfl hov.non (by omega)) rfl ?_
                refine Sx.want rfl rfl rfl rfl (Cm.load sca3 rfl (fun H hH => hH.2.gz 0 i rfl (by omega))) rfl ?_
                refine Sx.want rfl rfl rfl rfl (Cm.move rfl) rfl ?_
                refine Sx.want rfl rfl rfl rfl (Cm.move rfl) rfl ?_
                refine Sx.want rfl rfl rfl rfl (Cm.indexAddr sl65 rfl rfl hv3.non (by omega)) rfl ?_
                refine Sx.want rfl rfl rfl rfl (Cm.field fld72_3 rfl) rfl ?_
                refine Sx.want rfl rfl rfl rfl (Cm.field fld69_2 rfl) rfl ?_
                refine Sx.want rfl rfl rfl rfl (Cm.load sca3 rfl (fun H hH => by rw [add2]; exact hH.1.rowZ k rfl hp 5 _ rfl)) rfl ?_
                refine Sx.forkWant rfl rfl rfl rfl (Cm.eql rfl rfl) rfl (fun h115 => ?_) (fun h115 => ?_)
                ·
                  refine Sx.calm rfl rfl (Cm.pick_f rfl rfl) rfl ?_
                  refine Sx.calm rfl rfl (Cm.assign rfl) rfl ?_
                  refine Sx.nil ?_
                  refine At.block_normal ?_
                  refine At.weak [(0, _), (3, _), (4, _), (8, _), (9, _), (10, _), (11, _), (86, _)] ⟨rfl, rfl, rfl, rfl, rfl, rfl, rfl, rfl, trivial⟩ ?_
                  refine At.go ?_
                  refine Sc.region ?_
                  refine Sl.calm (Cm.move rfl) rfl ?_
                  refine Sl.calm (Cm.add64 rfl rfl (by omega)) rfl ?_
                  refine Sl.calm (Cm.assign rfl) rfl ?_
                  refine Sl.nil ?_
                  exact At.again (i + 1) ⟨rfl, rfl, rfl, rfl, congrArg (fun b => some (Value.bool b)) (decide_eq_true (hsu.2 (by first | exact .inl h89 | exact .inr h101.symm))).symm, congrArg (fun b => some (Value.bool b)) (decide_eq_true (hsg.2 (by first | exact .inl h103 | exact .inr h115.symm))).symm, rfl, trivial⟩ ⟨by omega, (hF2.draws 1).draws 1⟩ (by show L.length - (i + 1) < L.length - i; omega)
                ·
                  refine Sx.calm rfl rfl (Cm.pick_f rfl rfl) rfl ?_
                  refine Sx.calm rfl rfl (Cm.assign rfl) rfl ?_
                  refine Sx.nil ?_
                  refine At.block_normal ?_
                  refine At.weak [(0, _), (3, _), (4, _), (8, _), (9, _), (10, _), (11, _), (86, _)] ⟨rfl, rfl, rfl, rfl, rfl, rfl, rfl, rfl, trivial⟩ ?_
                  refine At.go ?_
                  refine Sc.region ?_
                  refine Sl.calm (Cm.move rfl) rfl ?_
                  refine Sl.calm (Cm.add64 rfl rfl (by omega)) rfl ?_
                  refine Sl.calm (Cm.assign rfl) rfl ?_
                  refine Sl.nil ?_
                  exact At.again (i + 1) ⟨rfl, rfl, rfl, rfl, congrArg (fun b => some (Value.bool b)) (decide_eq_true (hsu.2 (by first | exact .inl h89 | exact .inr h101.symm))).symm, congrArg (fun b => some (Value.bool b)) (decide_eq_false (fun h => by rcases hsg.1 h with h | h; exact h103 h; exact h115 h.symm)).symm, rfl, trivial⟩ ⟨by omega, (hF2.draws 1).draws 1⟩ (by show L.length - (i + 1) < L.length - i; omega)
            ·
              refine Sx.calm rfl rfl (Cm.pick_f rfl rfl) rfl ?_
              refine Sx.calm rfl rfl (Cm.assign rfl) rfl ?_
              refine Sx.nil ?_
              refine At.weak [(0, _), (3, _), (4, _), (8, _), (9, _), (10, _), (11, _), (86, _)] ⟨rfl, rfl, rfl, rfl, rfl, rfl, rfl, rfl, trivial⟩ ?_
              refine At.go ?_
              refine Sc.draw 15 (fun H => VwM 10 encN H lo lc M ∧ Vw i64 H o3 c3 L) [] [0, 1, 2, 3, 4, 5, 6, 7, 8, 9, 10, 11, 12, 13, 14] mixed (by kernel_rfl) (⟨hv3.keep (hF2.draws 1) (fun _ _ => id), hov.grow (hF2.draws 1)⟩) ?_
              refine Sx.fork rfl rfl (Cm.ofBool (Cm.move rfl)) rfl (fun h103 => ?_) (fun h103 => ?_)
              ·
                have h103 := of_decide_eq_true h103
                refine Sx.calm rfl rfl (Cm.move rfl) rfl ?_
                refine Sx.skip rfl rfl rfl rfl rfl rfl ?_
                refine Sx.skip rfl rfl rfl rfl rfl rfl ?_
                refine Sx.skip rfl rfl rfl rfl rfl rfl ?_
                refine Sx.skip rfl rfl rfl rfl rfl rfl ?_
                refine Sx.skip rfl rfl rfl rfl rfl rfl ?_
                refine Sx.skip rfl rfl rfl rfl rfl rfl ?_
                refine Sx.skip rfl rfl rfl rfl rfl rfl ?_
                refine Sx.skip rfl rfl rfl rfl rfl rfl ?_
                refine Sx.skip rfl rfl rfl rfl rfl rfl ?_
                refine Sx.skip rfl rfl rfl rfl rfl rfl ?_
                refine Sx.skip rfl rfl rfl rfl rfl rfl ?_
                refine Sx.calm rfl rfl (Cm.pick_t rfl rfl) rfl ?_
                refine Sx.calm rfl rfl (Cm.assign rfl) rfl ?_
                refine Sx.nil ?_
                refine At.block_normal ?_
                refine At.weak [(0, _), (3, _), (4, _), (8, _), (9, _), (10, _), (11, _), (86, _)] ⟨rfl, rfl, rfl, rfl, rfl, rfl, rfl, rfl, trivial⟩ ?_
                refine At.go ?_
                refine Sc.region ?_
                refine Sl.calm (Cm.move rfl) rfl ?_
                refine Sl.calm (Cm.add64 rfl rfl (by omega)) rfl ?_
                refine Sl.calm (Cm.assign rfl) rfl ?_
                refine Sl.nil ?_
                exact At.again (i + 1) ⟨rfl, rfl, rfl, rfl, congrArg (fun b => some (Value.bool b)) (decide_eq_false (fun h => by rcases hsu.1 h with h | h; exact h89 h; exact h101 h.symm)).symm, congrArg (fun b => some (Value.bool b)) (decide_eq_true (hsg.2 (by first | exact .inl h103 | exact .inr h115.symm))).symm, rfl, trivial⟩ ⟨by omega, (hF2.draws 1).draws 1⟩ (by show L.length - (i + 1) < L.length - i; omega)
              ·
                have h103 : ¬ p.2.gd ∈ L.take i := fun h => h103 (decide_eq_true h)
                refine Sx.calm rfl rfl (Cm.move rfl) rfl ?_
                refine Sx.want rfl rfl rfl rfl (Cm.move rfl) rfl ?_
                refine Sx.want rfl rfl rfl rfl (Cm.move rfl) rfl ?_
                refine Sx.want rfl rfl rfl rfl (Cm.indexAddr1 sl22 rfl rfl hov.non (by omega)) rfl ?_
                refine Sx.want rfl rfl rfl rfl (Cm.load sca3 rfl (fun H hH => hH.2.gz 0 i rfl (by omega))) rfl ?_
                refine Sx.want rfl rfl rfl rfl (Cm.move rfl) rfl ?_
                refine Sx.want rfl rfl rfl rfl (Cm.move rfl) rfl ?_
                refine Sx.want rfl rfl rfl rfl (Cm.indexAddr sl65 rfl rfl hv3.non (by omega)) rfl ?_
                refine Sx.want rfl rfl rfl rfl (Cm.field fld72_3 rfl) rfl ?_
                refine Sx.want rfl rfl rfl rfl (Cm.field fld69_2 rfl) rfl ?_
                refine Sx.want rfl rfl rfl rfl (Cm.load sca3 rfl (fun H hH => by rw [add2]; exact hH.1.rowZ k rfl hp 5 _ rfl)) rfl ?_
                refine Sx.forkWant rfl rfl rfl rfl (Cm.eql rfl rfl) rfl (fun h115 => ?_) (fun h115 => ?_)
                ·
                  refine Sx.calm rfl rfl (Cm.pick_f rfl rfl) rfl ?_
                  refine Sx.calm rfl rfl (Cm.assign rfl) rfl ?_
                  refine Sx.nil ?_
                  refine At.block_normal ?_
                  refine At.weak [(0, _), (3, _), (4, _), (8, _), (9, _), (10, _), (11, _), (86, _)] ⟨rfl, rfl, rfl, rfl, rfl, rfl, rfl, rfl, trivial⟩ ?_
                  refine At.go ?_
                  refine Sc.region ?_
                  refine Sl.calm (Cm.move rfl) rfl ?_
                  refine Sl.calm (Cm.add64 rfl rfl (by omega)) rfl ?_
                  refine Sl.calm (Cm.assign rfl) rfl ?_
                  refine Sl.nil ?_
                  exact At.again (i + 1) ⟨rfl, rfl, rfl, rfl, congrArg (fun b => some (Value.bool b)) (decide_eq_false (fun h => by rcases hsu.1 h with h | h; exact h89 h; exact h101 h.symm)).symm, congrArg (fun b => some (Value.bool b)) (decide_eq_true (hsg.2 (by first | exact .inl h103 | exact .inr h115.symm))).symm, rfl, trivial⟩ ⟨by omega, (hF2.draws 1).draws 1⟩ (by show L.length - (i + 1) < L.length - i; omega)
                ·
                  refine Sx.calm rfl rfl (Cm.pick_f rfl rfl) rfl ?_
                  refine Sx.calm rfl rfl (Cm.assign rfl) rfl ?_
                  refine Sx.nil ?_
                  refine At.block_normal ?_
                  refine At.weak [(0, _), (3, _), (4, _), (8, _), (9, _), (10, _), (11, _), (86, _)] ⟨rfl, rfl, rfl, rfl, rfl, rfl, rfl, rfl, trivial⟩ ?_
                  refine At.go ?_
                  refine Sc.region ?_
                  refine Sl.calm (Cm.move rfl) rfl ?_
                  refine Sl.calm (Cm.add64 rfl rfl (by omega)) rfl ?_
                  refine Sl.calm (Cm.assign rfl) rfl ?_
                  refine Sl.nil ?_
                  exact At.again (i + 1) ⟨rfl, rfl, rfl, rfl, congrArg (fun b => some (Value.bool b)) (decide_eq_false (fun h => by rcases hsu.1 h with h | h; exact h89 h; exact h101 h.symm)).symm, congrArg (fun b => some (Value.bool b)) (decide_eq_false (fun h => by rcases hsg.1 h with h | h; exact h103 h; exact h115 h.symm)).symm, rfl, trivial⟩ ⟨by omega, (hF2.draws 1).draws 1⟩ (by show L.length - (i + 1) < L.length - i; omega)
        ·
          have hie : i = L.length := by omega
          subst hie
          refine Sl.nil ?_
          refine At.weak [(0, _), (3, _), (4, _), (8, _), (9, _), (10, _), (11, _), (86, _)] ⟨rfl, rfl, rfl, rfl, rfl, rfl, rfl, rfl, trivial⟩ ?_
          refine At.go ?_
          refine Sc.cond_f rfl ?_
          refine Sc.exit ?_
          refine At.then_exit ?_
          refine At.then_exit ?_
          refine At.block_hit ?_
          refine At.go ?_
          refine Sc.seq ?_
          refine Sc.region ?_
          refine Sl.calm (Cm.move rfl) rfl ?_
          refine Sl.fork (Cm.notB rfl) rfl (fun h118 => ?_) (fun h118 => ?_)
          ·
            exact absurd h118 (by rw [List.take_length, decide_eq_true hum]; decide)
          ·
            refine Sl.calm (Cm.move rfl) rfl ?_
            refine Sl.want rfl rfl (Cm.move rfl) rfl ?_
            refine Sl.forkWant rfl rfl (Cm.notB rfl) rfl (fun h121 => ?_) (fun h121 => ?_)
            ·
              exact absurd h121 (by rw [List.take_length, decide_eq_true hgm]; decide)
            ·
              refine Sl.calm (Cm.pick_f rfl rfl) rfl ?_
              refine Sl.nil ?_
              refine At.weak [(0, _), (3, _), (4, _), (8, _), (9, _), (10, _), (11, _), (86, _), (122, _)] ⟨rfl, rfl, rfl, rfl, rfl, rfl, rfl, rfl, rfl, trivial⟩ ?_
              refine At.go ?_
              refine Sc.cond_f rfl ?_
              refine Sc.skip ?_
              refine At.block_normal ?_
              refine At.go ?_
              refine Sc.region ?_
              refine Sl.calm (Cm.move rfl) rfl ?_
              refine Sl.calm (Cm.add64 rfl rfl (by omega)) rfl ?_
              refine Sl.calm (Cm.assign rfl) rfl ?_
              refine Sl.nil ?_
              exact At.again (k + 1) ⟨rfl, rfl, rfl, rfl, trivial⟩ ⟨by omega, hF2⟩ (by show M.length - (k + 1) < M.length - k; omega)
      ·
        refine Sl.nil ?_
        refine At.weak [(0, _), (3, _), (4, _), (8, _), (80, _)] ⟨rfl, rfl, rfl, rfl, rfl, trivial⟩ ?_
        refine At.go ?_
        refine Sc.cond_f rfl ?_
        refine Sc.exit ?_
        refine At.then_exit ?_
        refine At.then_exit ?_
        refine At.block_hit ?_
        refine At.go ?_
        refine Sc.seq ?_
        refine Sc.region ?_
        refine Sl.calm (Cm.move rfl) rfl ?_
        refine Sl.calm (Cm.assign rfl) rfl ?_
        refine Sl.nil ?_
        refine At.weak [(0, _), (2, _), (3, _), (4, _), (8, _), (80, _)] ⟨rfl, rfl, rfl, rfl, rfl, rfl, trivial⟩ ?_
        refine At.go ?_
        refine Sc.ret ?_
        refine At.ret1 rfl rfl ?_
        exact ⟨_, rfl, rfl, (hf1.trans hf3).trans hF2⟩
end Go.Proofs.Ytoaplldahbbaiaa
