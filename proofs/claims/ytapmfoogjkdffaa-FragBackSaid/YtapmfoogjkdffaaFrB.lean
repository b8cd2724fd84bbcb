/- frag: slices of slices of bytes; rows, New, Clone, Blocks. No condition beyond the bounds that each states. -/
import Derived.Test.YtapmfoogjkdffaaFrA
namespace Go.Proofs.Ytapmfoogjkdffaa
open Go Go.RowKit
set_option linter.unusedVariables false

/-- what rows hands on -/
def rowsL (L : List (List UInt8)) : List (List UInt8) := (L.take 60).map (·.take 200)
theorem rowsL_succ (L : List (List UInt8)) (k : Nat) (hk : k < L.length) : (L.take (k + 1)).map (·.take 200) = (L.take k).map (·.take 200) ++ [(L.getD k []).take 200] := by
  rw [List.take_succ_eq_append_getElem hk, List.map_append]; simp [List.getD, hk]

set_option maxHeartbeats 1000000 in
theorem rows_ok (D : Nat → Prop) (ao : Option Addr) (cap : Nat) (hs : List Hd) (L : List (List UInt8)) (W : World) (hv : Vw hd W.heap ao cap hs) (hr : RowsV D W.heap hs L) :
    Calls Try.prog 15 [.slice ao hs.length cap].toArray W
      (Ret fun v w' => ∃ ao' cap' hs', v = .slice ao' hs'.length cap' ∧ Own hd 30 w'.heap ao' cap' hs' ∧ RowsV D w'.heap hs' (rowsL L) ∧ Fr W.heap.size ao' ∧ Foot nob W w') := by
  have hl := hv.len63
  have hln := hr.1
  refine calls_of_sc 31 [(0, _)] Try.func15 rfl rfl rfl (enter_slots ⟨rfl, trivial⟩) ?_
  refine Sc.seq ?_
  refine Sc.region ?_
  refine Sl.calm (Cm.assign rfl) rfl ?_
  refine Sl.nil ?_
  refine At.go ?_
  refine Sc.seq ?_
  refine Sc.region ?_
  refine Sl.lit0 hd sl22 rfl ?_
  intro w1 ho1 hs1 hf1
  refine Sl.calm (Cm.assign rfl) rfl ?_
  refine Sl.nil ?_
  refine At.weak [(0, _), (2, _), (3, _)] ⟨rfl, rfl, rfl, trivial⟩ ?_
  refine At.go ?_
  refine Sc.seq ?_
  refine Sc.seq ?_
  refine Sc.region ?_
  refine Sl.calm (Cm.assign rfl) rfl ?_
  refine Sl.nil ?_
  refine At.go ?_
  refine Sc.block ?_
  refine Sc.loop (β := Nat × Option Addr × Nat × List Hd) (fun ⟨k, bo, bc, gs⟩ => [(0, .slice ao hs.length cap), (3, .slice bo gs.length bc), (4, .int .i64 k)]) (fun ⟨k, bo, bc, gs⟩ w => k ≤ 60 ∧ k ≤ L.length ∧ Own hd 30 w.heap bo bc gs ∧ RowsV D W.heap gs ((L.take k).map (·.take 200)) ∧ Fr W.heap.size bo ∧ Foot nob W w) (fun ⟨k, bo, bc, gs⟩ => 60 - k) (0, some ⟨W.heap.size, 0, none⟩, 0, []) ⟨rfl, rfl, rfl, trivial⟩ ⟨by omega, by omega, ho1, RowsV.nil, (fun a ha => by cases ha; exact Nat.le_refl _), hf1⟩ ?_
  rintro ⟨k, bo, bc, gs⟩ w2 ⟨hk1, hk2, hob, hrg, hfr, hF⟩
  have hgl := hrg.1
  simp only [List.length_map, List.length_take] at hgl
  refine Sc.seq ?_
  refine Sc.seq ?_
  refine Sc.region ?_
  refine Sl.calm (Cm.move rfl) rfl ?_
  refine Sl.calm (Cm.move rfl) rfl ?_
  refine Sl.calm (Cm.len sl22 rfl) rfl ?_
  refine Sl.fork (Cm.lss rfl rfl) rfl (fun h10 => ?_) (fun h10 => ?_)
  ·
    refine Sl.calm (Cm.move rfl) rfl ?_
    refine Sl.want rfl rfl (Cm.move rfl) rfl ?_
    refine Sl.forkWant rfl rfl (Cm.lss rfl rfl) rfl (fun h13 => ?_) (fun h13 => ?_)
    ·
      refine Sl.calm (Cm.pick_t rfl rfl) rfl ?_
      refine Sl.nil ?_
      refine At.weak [(0, _), (3, _), (4, _), (14, _)] ⟨rfl, rfl, rfl, rfl, trivial⟩ ?_
      refine At.go ?_
      refine Sc.cond_t rfl ?_
      refine Sc.skip ?_
      refine At.go ?_
      refine Sc.seq ?_
      refine Sc.block ?_
      refine Sc.seq ?_
      refine Sc.region ?_
      refine Sl.calm (Cm.move rfl) rfl ?_
      refine Sl.calm (Cm.move rfl) rfl ?_
      obtain ⟨x, hx, hxn, hxv, hxD⟩ := (hr.at (i := k) (by omega))
      have hcell : cellH w2.heap (adr ao (k : Int).toNat) = some (hd x) := by rw [Int.toNat_natCast]; exact (hv.grow hF).get k x hx
      have hxl := hxv.le
      refine Sl.calm (Cm.indexAddr1 sl22 rfl rfl hv.non (by omega)) rfl ?_
      refine Sl.calm (Cm.ld sca30 rfl hcell) rfl ?_
      refine Sl.calm (Cm.assign rfl) rfl ?_
      refine Sl.nil ?_
      refine At.weak [(0, _), (3, _), (4, _), (5, _), (14, _)] ⟨rfl, rfl, rfl, rfl, rfl, trivial⟩ ?_
      refine At.go ?_
      refine Sc.seq ?_
      refine Sc.seq ?_
      refine Sc.region ?_
      refine Sl.calm (Cm.move rfl) rfl ?_
      refine Sl.calm (Cm.len sl30 rfl) rfl ?_
      refine Sl.fork (Cm.gtr rfl rfl) rfl (fun h23 => ?_) (fun h23 => ?_)
      ·
        refine Sl.nil ?_
        refine At.weak [(0, _), (3, _), (4, _), (5, _), (14, _), (23, _)] ⟨rfl, rfl, rfl, rfl, rfl, rfl, trivial⟩ ?_
        refine At.go ?_
        refine Sc.cond_t rfl ?_
        refine Sc.region ?_
        refine Sl.calm (Cm.move rfl) rfl ?_
        refine Sl.calm (Cm.sliceH sl30 rfl rfl (by omega)) rfl ?_
        refine Sl.calm (Cm.assign rfl) rfl ?_
        refine Sl.nil ?_
        refine At.weak [(0, _), (3, _), (4, _), (5, _), (14, _), (23, _)] ⟨rfl, rfl, rfl, rfl, rfl, rfl, trivial⟩ ?_
        refine At.go ?_
        refine Sc.region ?_
        refine Sl.calm (Cm.move rfl) rfl ?_
        refine Sl.calm (Cm.move rfl) rfl ?_
        refine Sl.lit1 (enc := hd) (u := ⟨cutAo x.a x.c 0 1, 200, x.c⟩) sl22 rfl rfl rfl ?_
        intro w3 ho3 hs3 hf3
        refine Sl.append hd_one sl22 rfl rfl (hob.grow hf3) ho3.vw (by simp only [List.length_singleton]; omega) (by simp only [List.length_singleton]; unfold maxLen; omega) rfl ?_
        intro ao4 c4 w4 ho4 hf4 hr4 hn4
        refine Sl.calm (Cm.assign rfl) rfl ?_
        refine Sl.nil ?_
        refine At.block_normal ?_
        refine At.weak [(0, _), (3, _), (4, _), (5, _), (14, _), (23, _)] ⟨rfl, rfl, rfl, rfl, rfl, rfl, trivial⟩ ?_
        refine At.go ?_
        refine Sc.region ?_
        refine Sl.calm (Cm.move rfl) rfl ?_
        refine Sl.calm (Cm.add64 rfl rfl (by omega)) rfl ?_
        refine Sl.calm (Cm.assign rfl) rfl ?_
        refine Sl.nil ?_
        refine At.again (k + 1, ao4, c4, gs ++ [⟨cutAo x.a x.c 0 1, 200, x.c⟩]) ⟨rfl, rfl, rfl, trivial⟩ ?_ (by show 60 - (k + 1) < 60 - k; omega)
        refine ⟨by omega, by omega, ho4, ?_, fun a ha => ?_, (hF.trans hf3).trans_to hf4 hfr.step⟩
        · rw [rowsL_succ L k (by omega)]
          exact hrg.snoc (by rw [List.length_take, ← hxn]; show 200 = _; omega) (by rw [cutAo_zero]; exact hxv.take 200) (fun hne k' hk' => hxD (fun e => hne (by rw [e]; rfl)) k' (by rw [cutAo_zero] at hk'; exact hk'))
        · rcases hr4 a ha with h | h
          · exact hfr a h
          · have := hF.size; have := hf3.size; omega
      ·
        refine Sl.nil ?_
        refine At.weak [(0, _), (3, _), (4, _), (5, _), (14, _), (23, _)] ⟨rfl, rfl, rfl, rfl, rfl, rfl, trivial⟩ ?_
        refine At.go ?_
        refine Sc.cond_f rfl ?_
        refine Sc.skip ?_
        refine At.go ?_
        refine Sc.region ?_
        refine Sl.calm (Cm.move rfl) rfl ?_
        refine Sl.calm (Cm.move rfl) rfl ?_
        refine Sl.lit1 (enc := hd) (u := x) sl22 rfl rfl rfl ?_
        intro w3 ho3 hs3 hf3
        refine Sl.append hd_one sl22 rfl rfl (hob.grow hf3) ho3.vw (by simp only [List.length_singleton]; omega) (by simp only [List.length_singleton]; unfold maxLen; omega) rfl ?_
        intro ao4 c4 w4 ho4 hf4 hr4 hn4
        refine Sl.calm (Cm.assign rfl) rfl ?_
        refine Sl.nil ?_
        refine At.block_normal ?_
        refine At.weak [(0, _), (3, _), (4, _), (5, _), (14, _), (23, _)] ⟨rfl, rfl, rfl, rfl, rfl, rfl, trivial⟩ ?_
        refine At.go ?_
        refine Sc.region ?_
        refine Sl.calm (Cm.move rfl) rfl ?_
        refine Sl.calm (Cm.add64 rfl rfl (by omega)) rfl ?_
        refine Sl.calm (Cm.assign rfl) rfl ?_
        refine Sl.nil ?_
        refine At.again (k + 1, ao4, c4, gs ++ [x]) ⟨rfl, rfl, rfl, trivial⟩ ?_ (by show 60 - (k + 1) < 60 - k; omega)
        refine ⟨by omega, by omega, ho4, ?_, fun a ha => ?_, (hF.trans hf3).trans_to hf4 hfr.step⟩
        · rw [rowsL_succ L k (by omega)]
          exact hrg.snoc (by rw [List.length_take, ← hxn]; omega) (hxv.take 200) (fun hne k' hk' => hxD (fun e => hne (by rw [e]; rfl)) k' hk')
        · rcases hr4 a ha with h | h
          · exact hfr a h
          · have := hF.size; have := hf3.size; omega
    ·
      refine Sl.calm (Cm.pick_t rfl rfl) rfl ?_
      refine Sl.nil ?_
      refine At.weak [(0, _), (3, _), (4, _), (14, _)] ⟨rfl, rfl, rfl, rfl, trivial⟩ ?_
      refine At.go ?_
      refine Sc.cond_f rfl ?_
      refine Sc.exit ?_
      refine At.then_exit ?_
      refine At.then_exit ?_
      refine At.block_hit ?_
      refine At.go ?_
      refine Sc.seq ?_
      refine Sc.region ?_
      refine Sl.calm (Cm.move rfl) rfl ?_
      refine Sl.calm (Cm.assign rfl) rfl ?_
      refine Sl.nil ?_
      refine At.weak [(0, _), (2, _), (3, _), (4, _), (14, _)] ⟨rfl, rfl, rfl, rfl, rfl, trivial⟩ ?_
      refine At.go ?_
      refine Sc.ret ?_
      refine At.ret1 rfl rfl ?_
      have hend : rowsL L = (L.take k).map (·.take 200) := by
        unfold rowsL
        by_cases h60 : k = 60
        · rw [h60]
        · rw [List.take_of_length_le (i := 60) (by omega), List.take_of_length_le (i := k) (by omega)]
      exact ⟨_, rfl, bo, bc, gs, rfl, hob, by rw [hend]; exact hrg.keep hF (fun _ _ h => h), hfr, hF⟩
  ·
    refine Sl.calm (Cm.move rfl) rfl ?_
    refine Sl.skip rfl rfl rfl rfl ?_
    refine Sl.skip rfl rfl rfl rfl ?_
    refine Sl.calm (Cm.pick_f rfl rfl) rfl ?_
    refine Sl.nil ?_
    refine At.weak [(0, _), (3, _), (4, _), (14, _)] ⟨rfl, rfl, rfl, rfl, trivial⟩ ?_
    refine At.go ?_
    refine Sc.cond_f rfl ?_
    refine Sc.exit ?_
    refine At.then_exit ?_
    refine At.then_exit ?_
    refine At.block_hit ?_
    refine At.go ?_
    refine Sc.seq ?_
    refine Sc.region ?_
    refine Sl.calm (Cm.move rfl) rfl ?_
    refine Sl.calm (Cm.assign rfl) rfl ?_
    refine Sl.nil ?_
    refine At.weak [(0, _), (2, _), (3, _), (4, _), (14, _)] ⟨rfl, rfl, rfl, rfl, rfl, trivial⟩ ?_
    refine At.go ?_
    refine Sc.ret ?_
    refine At.ret1 rfl rfl ?_
    have hend : rowsL L = (L.take k).map (·.take 200) := by
      unfold rowsL
      by_cases h60 : k = 60
      · rw [h60]
      · rw [List.take_of_length_le (i := 60) (by omega), List.take_of_length_le (i := k) (by omega)]
    exact ⟨_, rfl, bo, bc, gs, rfl, hob, by rw [hend]; exact hrg.keep hF (fun _ _ h => h), hfr, hF⟩
end Go.Proofs.Ytapmfoogjkdffaa
