/- data: holes, rows of bytes, the examples' bytes. No condition beyond the bounds that each states. -/
import Derived.Test.YtpnfjfbfgaiolaaDoorCck
import Derived.Test.YtpnfjfbfgaiolaaDoorMpk
import Derived.Test.YtpnfjfbfgaiolaaDoorKC
namespace Go.Proofs.YtpnfjfbfgaiolaaDoor
open Go Go.RowKit
set_option linter.unusedVariables false

/-- what rows hands on -/
def rowsD (L : List (List UInt8)) : List (List UInt8) := (L.take 12).map (·.take 1500)
theorem rowsD_succ (L : List (List UInt8)) (k : Nat) (hk : k < L.length) : (L.take (k + 1)).map (·.take 1500) = (L.take k).map (·.take 1500) ++ [(L.getD k []).take 1500] := by
  rw [List.take_succ_eq_append_getElem hk, List.map_append]; simp [List.getD, hk]

set_option maxHeartbeats 1000000 in
theorem rows12_ok (D : Nat → Prop) (ao : Option Addr) (cap : Nat) (hs : List Hd) (L : List (List UInt8)) (W : World) (hv : Vw hd W.heap ao cap hs) (hr : RowsV D W.heap hs L) :
    Calls Tryd.prog 9 [.slice ao hs.length cap].toArray W
      (Ret fun v w' => ∃ ao' cap' hs', v = .slice ao' hs'.length cap' ∧ Own hd 23 w'.heap ao' cap' hs' ∧ RowsV D w'.heap hs' (rowsD L) ∧ Fr W.heap.size ao' ∧ Foot nob W w') := by
  have hl := hv.len63
  have hln := hr.1
  refine calls_of_sc 31 [(0, _)] Tryd.func9 rfl rfl rfl (enter_slots ⟨rfl, trivial⟩) ?_
  refine Sc.seq ?_
  refine Sc.region ?_
  refine Sl.calm (Cm.assign rfl) rfl ?_
  refine Sl.nil ?_
  refine At.go ?_
  refine Sc.seq ?_
  refine Sc.region ?_
  refine Sl.lit0 hd sl22 rfl ?_
  intro w1 ho1 hs1 hf1
  refine Sl.calm (Cm.assign rfl) rfl ?_
  refine Sl.nil ?_
  refine At.weak [(0, _), (2, _), (3, _)] ⟨rfl, rfl, rfl, trivial⟩ ?_
  refine At.go ?_
  refine Sc.seq ?_
  refine Sc.seq ?_
  refine Sc.region ?_
  refine Sl.calm (Cm.assign rfl) rfl ?_
  refine Sl.nil ?_
  refine At.go ?_
  refine Sc.block ?_
  refine Sc.loop (β := Nat × Option Addr × Nat × List Hd) (fun ⟨k, bo, bc, gs⟩ => [(0, .slice ao hs.length cap), (3, .slice bo gs.length bc), (4, .int .i64 k)]) (fun ⟨k, bo, bc, gs⟩ w => k ≤ 12 ∧ k ≤ L.length ∧ Own hd 23 w.heap bo bc gs ∧ RowsV D W.heap gs ((L.take k).map (·.take 1500)) ∧ Fr W.heap.size bo ∧ Foot nob W w) (fun ⟨k, bo, bc, gs⟩ => 12 - k) (0, some ⟨W.heap.size, 0, none⟩, 0, []) ⟨rfl, rfl, rfl, trivial⟩ ⟨by omega, by omega, ho1, RowsV.nil, (fun a ha => by cases ha; exact Nat.le_refl _), hf1⟩ ?_
  rintro ⟨k, bo, bc, gs⟩ w2 ⟨hk1, hk2, hob, hrg, hfr, hF⟩
  have hgl := hrg.1
  simp only [List.length_map, List.length_take] at hgl
  refine Sc.seq ?_
  refine Sc.seq ?_
  refine Sc.region ?_
  refine Sl.calm (Cm.move rfl) rfl ?_
  refine Sl.calm (Cm.move rfl) rfl ?_
  refine Sl.calm (Cm.len sl22 rfl) rfl ?_
  refine Sl.fork (Cm.lss rfl rfl) rfl (fun h10 => ?_) (fun h10 => ?_)
  ·
    refine Sl.calm (Cm.move rfl) rfl ?_
    refine Sl.want rfl rfl (Cm.move rfl) rfl ?_
    refine Sl.forkWant rfl rfl (Cm.lss rfl rfl) rfl (fun h13 => ?_) (fun h13 => ?_)
    ·
      refine Sl.calm (Cm.pick_t rfl rfl) rfl ?_
      refine Sl.nil ?_
      refine At.weak [(0, _), (3, _), (4, _), (14, _)] ⟨rfl, rfl, rfl, rfl, trivial⟩ ?_
      refine At.go ?_
      refine Sc.cond_t rfl ?_
      refine Sc.skip ?_
      refine At.go ?_
      refine Sc.seq ?_
      refine Sc.block ?_
      refine Sc.seq ?_
      refine Sc.region ?_
      refine Sl.calm (Cm.move rfl) rfl ?_
      refine Sl.calm (Cm.move rfl) rfl ?_
      obtain ⟨x, hx, hxn, hxv, hxD⟩ := (hr.at (i := k) (by omega))
      have hcell : cellH w2.heap (adr ao (k : Int).toNat) = some (hd x) := by rw [Int.toNat_natCast]; exact (hv.grow hF).get k x hx
      have hxl := hxv.le
      refine Sl.calm (Cm.indexAddr1 sl22 rfl rfl hv.non (by omega)) rfl ?_
      refine Sl.calm (Cm.ld sca23 rfl hcell) rfl ?_
      refine Sl.calm (Cm.assign rfl) rfl ?_
      refine Sl.nil ?_
      refine At.weak [(0, _), (3, _), (4, _), (5, _), (14, _)] ⟨rfl, rfl, rfl, rfl, rfl, trivial⟩ ?_
      refine At.go ?_
      refine Sc.seq ?_
      refine Sc.seq ?_
      refine Sc.region ?_
      refine Sl.calm (Cm.move rfl) rfl ?_
      refine Sl.calm (Cm.len sl23 rfl) rfl ?_
      refine Sl.fork (Cm.gtr rfl rfl) rfl (fun h23 => ?_) (fun h23 => ?_)
      ·
        refine Sl.nil ?_
        refine At.weak [(0, _), (3, _), (4, _), (5, _), (14, _), (23, _)] ⟨rfl, rfl, rfl, rfl, rfl, rfl, trivial⟩ ?_
        refine At.go ?_
        refine Sc.cond_t rfl ?_
        refine Sc.region ?_
        refine Sl.calm (Cm.move rfl) rfl ?_
        refine Sl.calm (Cm.sliceH sl23 rfl rfl (by omega)) rfl ?_
        refine Sl.calm (Cm.assign rfl) rfl ?_
        refine Sl.nil ?_
        refine At.weak [(0, _), (3, _), (4, _), (5, _), (14, _), (23, _)] ⟨rfl, rfl, rfl, rfl, rfl, rfl, trivial⟩ ?_
        refine At.go ?_
        refine Sc.region ?_
        refine Sl.calm (Cm.move rfl) rfl ?_
        refine Sl.calm (Cm.move rfl) rfl ?_
        refine Sl.lit1 (enc := hd) (u := ⟨cutAo x.a x.c 0 1, 1500, x.c⟩) sl22 rfl rfl rfl ?_
        intro w3 ho3 hs3 hf3
        refine Sl.append hd_one sl22 rfl rfl (hob.grow hf3) ho3.vw (by simp only [List.length_singleton]; omega) (by simp only [List.length_singleton]; unfold maxLen; omega) rfl ?_
        intro ao4 c4 w4 ho4 hf4 hr4 hn4
        refine Sl.calm (Cm.assign rfl) rfl ?_
        refine Sl.nil ?_
        refine At.block_normal ?_
        refine At.weak [(0, _), (3, _), (4, _), (5, _), (14, _), (23, _)] ⟨rfl, rfl, rfl, rfl, rfl, rfl, trivial⟩ ?_
        refine At.go ?_
        refine Sc.region ?_
        refine Sl.calm (Cm.move rfl) rfl ?_
        refine Sl.calm (Cm.add64 rfl rfl (by omega)) rfl ?_
        refine Sl.calm (Cm.assign rfl) rfl ?_
        refine Sl.nil ?_
        refine At.again (k + 1, ao4, c4, gs ++ [⟨cutAo x.a x.c 0 1, 1500, x.c⟩]) ⟨rfl, rfl, rfl, trivial⟩ ?_ (by show 12 - (k + 1) < 12 - k; omega)
        refine ⟨by omega, by omega, ho4, ?_, fun a ha => ?_, (hF.trans hf3).trans_to hf4 hfr.step⟩
        · rw [rowsD_succ L k (by omega)]
          exact hrg.snoc (by rw [List.length_take, ← hxn]; show 1500 = _; omega) (by rw [cutAo_zero]; exact hxv.take 1500) (fun hne k' hk' => hxD (fun e => hne (by rw [e]; rfl)) k' (by rw [cutAo_zero] at hk'; exact hk'))
        · rcases hr4 a ha with h | h
          · exact hfr a h
          · have := hF.size; have := hf3.size; omega
      ·
        refine Sl.nil ?_
        refine At.weak [(0, _), (3, _), (4, _), (5, _), (14, _), (23, _)] ⟨rfl, rfl, rfl, rfl, rfl, rfl, trivial⟩ ?_
        refine At.go ?_
        refine Sc.cond_f rfl ?_
        refine Sc.skip ?_
        refine At.go ?_
        refine Sc.region ?_
        refine Sl.calm (Cm.move rfl) rfl ?_
        refine Sl.calm (Cm.move rfl) rfl ?_
        refine Sl.lit1 (enc := hd) (u := x) sl22 rfl rfl rfl ?_
        intro w3 ho3 hs3 hf3
        refine Sl.append hd_one sl22 rfl rfl (hob.grow hf3) ho3.vw (by simp only [List.length_singleton]; omega) (by simp only [List.length_singleton]; unfold maxLen; omega) rfl ?_
        intro ao4 c4 w4 ho4 hf4 hr4 hn4
        refine Sl.calm (Cm.assign rfl) rfl ?_
        refine Sl.nil ?_
        refine At.block_normal ?_
        refine At.weak [(0, _), (3, _), (4, _), (5, _), (14, _), (23, _)] ⟨rfl, rfl, rfl, rfl, rfl, rfl, trivial⟩ ?_
        refine At.go ?_
        refine Sc.region ?_
        refine Sl.calm (Cm.move rfl) rfl ?_
        refine Sl.calm (Cm.add64 rfl rfl (by omega)) rfl ?_
        refine Sl.calm (Cm.assign rfl) rfl ?_
        refine Sl.nil ?_
        refine At.again (k + 1, ao4, c4, gs ++ [x]) ⟨rfl, rfl, rfl, trivial⟩ ?_ (by show 12 - (k + 1) < 12 - k; omega)
        refine ⟨by omega, by omega, ho4, ?_, fun a ha => ?_, (hF.trans hf3).trans_to hf4 hfr.step⟩
        · rw [rowsD_succ L k (by omega)]
          exact hrg.snoc (by rw [List.length_take, ← hxn]; omega) (hxv.take 1500) (fun hne k' hk' => hxD (fun e => hne (by rw [e]; rfl)) k' hk')
        · rcases hr4 a ha with h | h
          · exact hfr a h
          · have := hF.size; have := hf3.size; omega
    ·
      refine Sl.calm (Cm.pick_t rfl rfl) rfl ?_
      refine Sl.nil ?_
      refine At.weak [(0, _), (3, _), (4, _), (14, _)] ⟨rfl, rfl, rfl, rfl, trivial⟩ ?_
      refine At.go ?_
      refine Sc.cond_f rfl ?_
      refine Sc.exit ?_
      refine At.then_exit ?_
      refine At.then_exit ?_
      refine At.block_hit ?_
      refine At.go ?_
      refine Sc.seq ?_
      refine Sc.region ?_
      refine Sl.calm (Cm.move rfl) rfl ?_
      refine Sl.calm (Cm.assign rfl) rfl ?_
      refine Sl.nil ?_
      refine At.weak [(0, _), (2, _), (3, _), (4, _), (14, _)] ⟨rfl, rfl, rfl, rfl, rfl, trivial⟩ ?_
      refine At.go ?_
      refine Sc.ret ?_
      refine At.ret1 rfl rfl ?_
      have hend : rowsD L = (L.take k).map (·.take 1500) := by
        unfold rowsD
        by_cases h12 : k = 12
        · rw [h12]
        · rw [List.take_of_length_le (i := 12) (by omega), List.take_of_length_le (i := k) (by omega)]
      exact ⟨_, rfl, bo, bc, gs, rfl, hob, by rw [hend]; exact hrg.keep hF (fun _ _ h => h), hfr, hF⟩
  ·
    refine Sl.calm (Cm.move rfl) rfl ?_
    refine Sl.skip rfl rfl rfl rfl ?_
    refine Sl.skip rfl rfl rfl rfl ?_
    refine Sl.calm (Cm.pick_f rfl rfl) rfl ?_
    refine Sl.nil ?_
    refine At.weak [(0, _), (3, _), (4, _), (14, _)] ⟨rfl, rfl, rfl, rfl, trivial⟩ ?_
    refine At.go ?_
    refine Sc.cond_f rfl ?_
    refine Sc.exit ?_
    refine At.then_exit ?_
    refine At.then_exit ?_
    refine At.block_hit ?_
    refine At.go ?_
    refine Sc.seq ?_
    refine Sc.region ?_
    refine Sl.calm (Cm.move rfl) rfl ?_
    refine Sl.calm (Cm.assign rfl) rfl ?_
    refine Sl.nil ?_
    refine At.weak [(0, _), (2, _), (3, _), (4, _), (14, _)] ⟨rfl, rfl, rfl, rfl, rfl, trivial⟩ ?_
    refine At.go ?_
    refine Sc.ret ?_
    refine At.ret1 rfl rfl ?_
    have hend : rowsD L = (L.take k).map (·.take 1500) := by
      unfold rowsD
      by_cases h12 : k = 12
      · rw [h12]
      · rw [List.take_of_length_le (i := 12) (by omega), List.take_of_length_le (i := k) (by omega)]
    exact ⟨_, rfl, bo, bc, gs, rfl, hob, by rw [hend]; exact hrg.keep hF (fun _ _ h => h), hfr, hF⟩

def holeB (b : List UInt8) : Prop := ∀ i, i < b.length → b.getD i 0 = 0
instance (b : List UInt8) : Decidable (holeB b) := by unfold holeB; exact inferInstance
set_option maxHeartbeats 1000000 in
theorem trimz_ok (o : Option Addr) (c : Nat) (b : List UInt8) (W : World) (hv : Vw b8 W.heap o c b) :
    Calls Tryd.prog 52 [.slice o b.length c, .int .u8 0].toArray W (Ret fun v w' => ∃ o' n c', v = .slice o' n c' ∧ (n = 0 ↔ holeB b) ∧ w' = W) := by
  have hlen := hv.len63
  refine calls_of_sc 21 [(0, _), (1, _)] Tryd.func52 rfl rfl rfl (enter_slots ⟨rfl, rfl, trivial⟩) ?_
  refine Sc.seq ?_
  refine Sc.region ?_
  refine Sl.calm (Cm.assign rfl) rfl ?_
  refine Sl.nil ?_
  refine At.go ?_
  refine Sc.seq ?_
  refine Sc.block ?_
  refine Sc.loop (β := Nat × (Option Addr × Nat)) (fun ⟨i, ⟨oi, ci⟩⟩ => [(0, .slice oi (b.drop i).length ci), (1, .int .u8 0)]) (fun ⟨i, ⟨oi, ci⟩⟩ w => i ≤ b.length ∧ (∀ j, j < i → b.getD j 0 = 0) ∧ Vw b8 W.heap oi ci (b.drop i) ∧ w = W) (fun ⟨i, ⟨oi, ci⟩⟩ => b.length - i) ⟨0, ⟨o, c⟩⟩ ⟨rfl, rfl, trivial⟩ ⟨Nat.zero_le _, by intro j hj; omega, hv, rfl⟩ ?_
  rintro ⟨i, ⟨oi, ci⟩⟩ w2 ⟨hi, hz, hvi, hw2⟩
  subst hw2
  have hdl0 := List.length_drop (i := i) (l := b)
  have hci := hvi.le
  refine Sc.seq ?_
  refine Sc.seq ?_
  refine Sc.region ?_
  refine Sl.calm (Cm.move rfl) rfl ?_
  refine Sl.calm (Cm.len sl23 rfl) rfl ?_
  refine Sl.fork (Cm.gtr rfl rfl) rfl (fun h7 => ?_) (fun h7 => ?_)
  ·
    have hdl : 0 < (b.drop i).length := by omega
    refine Sl.calm (Cm.move rfl) rfl ?_
    refine Sl.want rfl rfl (Cm.move rfl) rfl ?_
    refine Sl.want rfl rfl (Cm.indexAddr1 sl23 rfl rfl hvi.non (by omega)) rfl ?_
    refine Sl.want rfl rfl (Cm.ld sca5 rfl (hvi.gz 0 0 rfl (by omega))) rfl ?_
    refine Sl.want rfl rfl (Cm.move rfl) rfl ?_
    refine Sl.forkWant rfl rfl (Cm.eql rfl rfl) rfl (fun h13 => ?_) (fun h13 => ?_)
    ·
      have h13 : (((b.drop i).getD 0 0).toNat : Int) = 0 := h13
      have h0 : b.getD i 0 = 0 := by rw [List.getD, List.getElem?_drop, Nat.add_zero] at h13; have h13 : ((b.getD i 0).toNat : Int) = 0 := h13; exact UInt8.toNat_inj.1 (by show _ = 0; omega)
      refine Sl.calm (Cm.pick_t rfl rfl) rfl ?_
      refine Sl.nil ?_
      refine At.weak [(0, _), (1, _), (14, _)] ⟨rfl, rfl, rfl, trivial⟩ ?_
      refine At.go ?_
      refine Sc.cond_t rfl ?_
      refine Sc.skip ?_
      refine At.go ?_
      refine Sc.block ?_
      refine Sc.region ?_
      refine Sl.calm (Cm.move rfl) rfl ?_
      refine Sl.calm (Cm.sliceL sl23 rfl rfl (by omega)) rfl ?_
      refine Sl.calm (Cm.assign rfl) rfl ?_
      refine Sl.nil ?_
      refine At.block_normal ?_
      have hcd := cut_drop (n := 1) hvi (by decide) (by omega)
      rw [show (1 : Int).toNat = 1 from rfl, List.drop_drop] at hcd
      refine At.again ⟨i + 1, ⟨_, _⟩⟩ ⟨?_, rfl, trivial⟩ ⟨by omega, ?_, hcd, rfl⟩ (by show b.length - (i + 1) < b.length - i; omega)
      · show some (Value.slice _ _ _) = some (Value.slice _ _ _)
        rw [show (1 : Int).toNat = 1 from rfl, List.length_drop, List.length_drop, Nat.sub_sub]
      · intro j hj
        by_cases hji : j = i
        · rw [hji]; exact h0
        · exact hz j (by omega)
    ·
      have h13 : ¬ (((b.drop i).getD 0 0).toNat : Int) = 0 := h13
      have hne : b.getD i 0 ≠ 0 := fun e => h13 (by rw [List.getD, List.getElem?_drop, Nat.add_zero]; show ((b.getD i 0).toNat : Int) = 0; rw [e]; rfl)
      refine Sl.calm (Cm.pick_t rfl rfl) rfl ?_
      refine Sl.nil ?_
      refine At.weak [(0, _), (1, _), (14, _)] ⟨rfl, rfl, rfl, trivial⟩ ?_
      refine At.go ?_
      refine Sc.cond_f rfl ?_
      refine Sc.exit ?_
      refine At.then_exit ?_
      refine At.then_exit ?_
      refine At.block_hit ?_
      refine At.go ?_
      refine Sc.seq ?_
      refine Sc.seq ?_
      refine Sc.region ?_
      refine Sl.calm (Cm.move rfl) rfl ?_
      refine Sl.calm (Cm.len sl23 rfl) rfl ?_
      refine Sl.fork (Cm.eql rfl rfl) rfl (fun h19 => ?_) (fun h19 => ?_)
      ·
        refine Sl.nil ?_
        refine At.weak [(0, _), (1, _), (14, _), (19, _)] ⟨rfl, rfl, rfl, rfl, trivial⟩ ?_
        refine At.go ?_
        refine Sc.cond_t rfl ?_
        refine Sc.seq ?_
        refine Sc.region ?_
        refine Sl.calm (Cm.assign rfl) rfl ?_
        refine Sl.nil ?_
        refine At.go ?_
        refine Sc.ret ?_
        refine At.then_ret ?_
        refine At.ret1 rfl rfl ?_
        first
          | exact absurd h19 (by omega)
          | (have h0 : b.length ≤ i := by omega
             exact ⟨_, rfl, none, 0, 0, rfl, ⟨fun _ => fun j hj => hz j (by omega), fun _ => rfl⟩, rfl⟩)
      ·
        refine Sl.nil ?_
        refine At.weak [(0, _), (1, _), (14, _), (19, _)] ⟨rfl, rfl, rfl, rfl, trivial⟩ ?_
        refine At.go ?_
        refine Sc.cond_f rfl ?_
        refine Sc.skip ?_
        refine At.go ?_
        refine Sc.seq ?_
        refine Sc.region ?_
        refine Sl.calm (Cm.move rfl) rfl ?_
        refine Sl.calm (Cm.assign rfl) rfl ?_
        refine Sl.nil ?_
        refine At.weak [(0, _), (1, _), (4, _), (14, _), (19, _)] ⟨rfl, rfl, rfl, rfl, rfl, trivial⟩ ?_
        refine At.go ?_
        refine Sc.ret ?_
        refine At.ret1 rfl rfl ?_
        first
          | exact absurd h19 (by omega)
          | (have h0 : i < b.length := by omega
             exact ⟨_, rfl, oi, (b.drop i).length, ci, rfl, ⟨fun e => absurd e (by omega), fun h => absurd (h i h0) hne⟩, rfl⟩)
  ·
    refine Sl.calm (Cm.move rfl) rfl ?_
    refine Sl.skip rfl rfl rfl rfl ?_
    refine Sl.skip rfl rfl rfl rfl ?_
    refine Sl.skip rfl rfl rfl rfl ?_
    refine Sl.skip rfl rfl rfl rfl ?_
    refine Sl.skip rfl rfl rfl rfl ?_
    refine Sl.calm (Cm.pick_f rfl rfl) rfl ?_
    refine Sl.nil ?_
    refine At.weak [(0, _), (1, _), (14, _)] ⟨rfl, rfl, rfl, trivial⟩ ?_
    refine At.go ?_
    refine Sc.cond_f rfl ?_
    refine Sc.exit ?_
    refine At.then_exit ?_
    refine At.then_exit ?_
    refine At.block_hit ?_
    refine At.go ?_
    refine Sc.seq ?_
    refine Sc.seq ?_
    refine Sc.region ?_
    refine Sl.calm (Cm.move rfl) rfl ?_
    refine Sl.calm (Cm.len sl23 rfl) rfl ?_
    refine Sl.fork (Cm.eql rfl rfl) rfl (fun h19 => ?_) (fun h19 => ?_)
    ·
      refine Sl.nil ?_
      refine At.weak [(0, _), (1, _), (14, _), (19, _)] ⟨rfl, rfl, rfl, rfl, trivial⟩ ?_
      refine At.go ?_
      refine Sc.cond_t rfl ?_
      refine Sc.seq ?_
      refine Sc.region ?_
      refine Sl.calm (Cm.assign rfl) rfl ?_
      refine Sl.nil ?_
      refine At.go ?_
      refine Sc.ret ?_
      refine At.then_ret ?_
      refine At.ret1 rfl rfl ?_
      first
        | exact absurd h19 (by omega)
        | (have h0 : b.length ≤ i := by omega
           exact ⟨_, rfl, none, 0, 0, rfl, ⟨fun _ => fun j hj => hz j (by omega), fun _ => rfl⟩, rfl⟩)
    ·
      refine Sl.nil ?_
      refine At.weak [(0, _), (1, _), (14, _), (19, _)] ⟨rfl, rfl, rfl, rfl, trivial⟩ ?_
      refine At.go ?_
      refine Sc.cond_f rfl ?_
      refine Sc.skip ?_
      refine At.go ?_
      refine Sc.seq ?_
      refine Sc.region ?_
      refine Sl.calm (Cm.move rfl) rfl ?_
      refine Sl.calm (Cm.assign rfl) rfl ?_
      refine Sl.nil ?_
      refine At.weak [(0, _), (1, _), (4, _), (14, _), (19, _)] ⟨rfl, rfl, rfl, rfl, rfl, trivial⟩ ?_
      refine At.go ?_
      refine Sc.ret ?_
      refine At.ret1 rfl rfl ?_
      first
        | exact absurd h19 (by omega)
        | (have h0 : i < b.length := by omega
           exact ⟨_, rfl, oi, (b.drop i).length, ci, rfl, ⟨fun e => absurd e (by omega), fun h => absurd (h i h0) hne⟩, rfl⟩)
end Go.Proofs.YtpnfjfbfgaiolaaDoor
